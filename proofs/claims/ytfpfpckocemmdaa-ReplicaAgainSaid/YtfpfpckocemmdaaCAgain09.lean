/- Part 9 of the walk. -/
import Derived.Test.YtfpfpckocemmdaaCAgain08
section
namespace Go.Proofs.Ytfpfpckocemmdaa.P
open Go.RowKit Go.Proofs.YtfpfpckocemmdaaW.PrintWords Go.Proofs.YtfpfpckocemmdaaW.PrintLast Go.Proofs.YtfpfpckocemmdaaW.PrintMore
attribute [local go_sem] max2_int min2_int max_two min_two max_three min_three max_four min_four
set_option linter.unusedVariables false
set_option linter.unusedSimpArgs false
def wk_T6 : Bool × List (List Nat × List Nat) := (true, [([], []), ([], []), ([1], [1]), ([2], [2]), ([0, 3], [0, 3]), ([4], [4]), ([5], [5]), ([5], [5]), ([5], [5]), ([], []), ([9, 6, 4, 0, 1, 2, 3, 4, 5, 6, 9], [6, 9]), ([7, 10, 0, 1, 2, 3, 4, 5, 6, 7, 9, 10], [7]), ([8, 11, 0, 1, 2, 3, 4, 5, 6, 7, 8, 9, 10, 11], [8])])
def wk_B6 : List Nat := [0, 0, 2, 6, 15, 31, 63, 63, 63, 0, 639, 1791, 4095]
theorem wk_tab6 : rtab .any (opsOf Try.f9 6) = wk_T6 := by kernel_rfl
theorem wk_bits6 : waitsOk wk_T6.2 wk_B6 = true := by kernel_rfl
def wk_T9 : Bool × List (List Nat × List Nat) := (true, [([], []), ([], []), ([1], [1]), ([2], [2]), ([0, 3], [0, 3]), ([4], [4]), ([5], [5]), ([5], [5]), ([5], [5]), ([], []), ([9, 6, 4, 0, 1, 2, 3, 4, 5, 6, 9], [6, 9]), ([7, 10, 0, 1, 2, 3, 4, 5, 6, 7, 9, 10], [7]), ([8, 11, 0, 1, 2, 3, 4, 5, 6, 7, 8, 9, 10, 11], [8])])
def wk_B9 : List Nat := [0, 0, 2, 6, 15, 31, 63, 63, 63, 0, 639, 1791, 4095]
theorem wk_tab9 : rtab .any (opsOf Try.f9 9) = wk_T9 := by kernel_rfl
theorem wk_bits9 : waitsOk wk_T9.2 wk_B9 = true := by kernel_rfl
set_option maxHeartbeats 8000000 in
set_option maxRecDepth 100000 in
theorem worked_calls (w : World) : Calls Try.prog 9 #[] w fun e w' => e = .returned (.bool true) ∧ Below w.heap.size w w' := by
  have hu26 := Try.underlying26
  have hu28 := Try.underlying28
  go_enter Try.func9, Try.ntmps9
  go_wp2_with (first | (go_at_call 11; with_reducible refine (w_new0 _).mono ?_; rintro e w1 ⟨a6, a6', a7, a7', a8, a8', rfl, hA, hb, hK⟩; have HS1 := Aside0.mk ((Stays.new w1 (.cells #[.int .i64 0, .int .i64 3, .int .i64 0, .int .i64 0, .bool true, .int .i64 0, .slice a6 0 a6', .slice a7 3 a7', .slice a8 0 a8'] 26)).and ((Stays.of hK).alloc (.cells #[.int .i64 0, .int .i64 3, .int .i64 0, .int .i64 0, .bool true, .int .i64 0, .slice a6 0 a6', .slice a7 3 a7', .slice a8 0 a8'] 26))); have HB1 := Aside0.mk (below_alloc hb (.cells #[.int .i64 0, .int .i64 3, .int .i64 0, .int .i64 0, .bool true, .int .i64 0, .slice a6 0 a6', .slice a7 3 a7', .slice a8 0 a8'] 26)); clear hA hb hK))
  go_at_call 11
  with_reducible refine (w_new1 _).mono ?_
  rintro e w2 ⟨b6, b6', b7, b7', b8, b8', rfl, hA, hb, hK⟩
  have HS2 := Aside0.mk (((HS1.out.below hb).alloc (.cells #[.int .i64 1, .int .i64 3, .int .i64 0, .int .i64 0, .bool true, .int .i64 0, .slice b6 0 b6', .slice b7 3 b7', .slice b8 0 b8'] 26)).and ((Stays.new w2 (.cells #[.int .i64 1, .int .i64 3, .int .i64 0, .int .i64 0, .bool true, .int .i64 0, .slice b6 0 b6', .slice b7 3 b7', .slice b8 0 b8'] 26)).and ((Stays.of hK).alloc (.cells #[.int .i64 1, .int .i64 3, .int .i64 0, .int .i64 0, .bool true, .int .i64 0, .slice b6 0 b6', .slice b7 3 b7', .slice b8 0 b8'] 26))))
  have HB2 := Aside0.mk (below_alloc (below_step HB1.out hb) (.cells #[.int .i64 1, .int .i64 3, .int .i64 0, .int .i64 0, .bool true, .int .i64 0, .slice b6 0 b6', .slice b7 3 b7', .slice b8 0 b8'] 26))
  have p0 : (w2.alloc (.cells #[.int .i64 1, .int .i64 3, .int .i64 0, .int .i64 0, .bool true, .int .i64 0, .slice b6 0 b6', .slice b7 3 b7', .slice b8 0 b8'] 26)).cell? ⟨w1.heap.size, 0, none⟩ = some (.int .i64 0) := blk_cell HS2.out.here.1.1 0
  have p1 : (w2.alloc (.cells #[.int .i64 1, .int .i64 3, .int .i64 0, .int .i64 0, .bool true, .int .i64 0, .slice b6 0 b6', .slice b7 3 b7', .slice b8 0 b8'] 26)).cell? ⟨w1.heap.size, 1, none⟩ = some (.int .i64 3) := blk_cell HS2.out.here.1.1 1
  have p2 : (w2.alloc (.cells #[.int .i64 1, .int .i64 3, .int .i64 0, .int .i64 0, .bool true, .int .i64 0, .slice b6 0 b6', .slice b7 3 b7', .slice b8 0 b8'] 26)).cell? ⟨w1.heap.size, 2, none⟩ = some (.int .i64 0) := blk_cell HS2.out.here.1.1 2
  have p3 : (w2.alloc (.cells #[.int .i64 1, .int .i64 3, .int .i64 0, .int .i64 0, .bool true, .int .i64 0, .slice b6 0 b6', .slice b7 3 b7', .slice b8 0 b8'] 26)).cell? ⟨w1.heap.size, 3, none⟩ = some (.int .i64 0) := blk_cell HS2.out.here.1.1 3
  have p4 : (w2.alloc (.cells #[.int .i64 1, .int .i64 3, .int .i64 0, .int .i64 0, .bool true, .int .i64 0, .slice b6 0 b6', .slice b7 3 b7', .slice b8 0 b8'] 26)).cell? ⟨w1.heap.size, 4, none⟩ = some (.bool true) := blk_cell HS2.out.here.1.1 4
  have p5 : (w2.alloc (.cells #[.int .i64 1, .int .i64 3, .int .i64 0, .int .i64 0, .bool true, .int .i64 0, .slice b6 0 b6', .slice b7 3 b7', .slice b8 0 b8'] 26)).cell? ⟨w1.heap.size, 5, none⟩ = some (.int .i64 0) := blk_cell HS2.out.here.1.1 5
  have p6 : (w2.alloc (.cells #[.int .i64 1, .int .i64 3, .int .i64 0, .int .i64 0, .bool true, .int .i64 0, .slice b6 0 b6', .slice b7 3 b7', .slice b8 0 b8'] 26)).cell? ⟨w1.heap.size, 6, none⟩ = some (.slice a6 0 a6') := blk_cell HS2.out.here.1.1 6
  have p7 : (w2.alloc (.cells #[.int .i64 1, .int .i64 3, .int .i64 0, .int .i64 0, .bool true, .int .i64 0, .slice b6 0 b6', .slice b7 3 b7', .slice b8 0 b8'] 26)).cell? ⟨w1.heap.size, 7, none⟩ = some (.slice a7 3 a7') := blk_cell HS2.out.here.1.1 7
  have p8 : (w2.alloc (.cells #[.int .i64 1, .int .i64 3, .int .i64 0, .int .i64 0, .bool true, .int .i64 0, .slice b6 0 b6', .slice b7 3 b7', .slice b8 0 b8'] 26)).cell? ⟨w1.heap.size, 8, none⟩ = some (.slice a8 0 a8') := blk_cell HS2.out.here.1.1 8
  clear hA hb hK HS1 HB1
  go_wp2_with (fail)
  go_at_call 13
  with_reducible refine (w_ask1 _ _ _ _ _ _ _ HS2.out.here.1.2).mono ?_
  rintro e w3 ⟨c6, c6', c7, c7', c8, c8', t6, t6', rfl, hA, h9, hC, hb, hK⟩
  have HS3 := Aside0.mk (show Stays (w3.alloc (.cells #[.int .i64 0, .int .i64 3, .int .i64 0, .int .i64 0, .bool true, .int .i64 0, .slice c6 1 c6', .slice c7 3 c7', .slice c8 0 c8'] 26)) (fun W => W.heap[w2.heap.size]? = some (.cells #[.int .i64 1, .int .i64 3, .int .i64 0, .int .i64 0, .bool true, .int .i64 0, .slice b6 0 b6', .slice b7 3 b7', .slice b8 0 b8'] 26 (0, 0)) ∧ W.heap[w3.heap.size]? = some (.cells #[.int .i64 0, .int .i64 3, .int .i64 0, .int .i64 0, .bool true, .int .i64 0, .slice c6 1 c6', .slice c7 3 c7', .slice c8 0 c8'] 26 (0, 0)) ∧ Arg W (⟨1, 3, 0, 0, true, 0, [], [0, 0, 0], [], []⟩ : Nod) b6 b7 b8 b6' b7' b8' ∧ Arg W (⟨0, 3, 0, 0, true, 0, [⟨#[97]⟩], [1, 0, 0], [], [⟨1, 0, 1, 0, 0, 0, 0, [⟨#[97]⟩]⟩, ⟨1, 0, 2, 0, 0, 0, 0, [⟨#[97]⟩]⟩]⟩ : Nod) c6 c7 c8 c6' c7' c8' ∧ Kd.C k28 W t6 2 [(⟨1, 0, 1, 0, 0, 0, 0, [⟨#[97]⟩]⟩ : S28), (⟨1, 0, 2, 0, 0, 0, 0, [⟨#[97]⟩]⟩ : S28)]) from (((HS2.out.below hb).alloc (.cells #[.int .i64 0, .int .i64 3, .int .i64 0, .int .i64 0, .bool true, .int .i64 0, .slice c6 1 c6', .slice c7 3 c7', .slice c8 0 c8'] 26)).and ((Stays.new w3 (.cells #[.int .i64 0, .int .i64 3, .int .i64 0, .int .i64 0, .bool true, .int .i64 0, .slice c6 1 c6', .slice c7 3 c7', .slice c8 0 c8'] 26)).and ((Stays.of hK).alloc (.cells #[.int .i64 0, .int .i64 3, .int .i64 0, .int .i64 0, .bool true, .int .i64 0, .slice c6 1 c6', .slice c7 3 c7', .slice c8 0 c8'] 26)))).mono (fun W' h => ⟨h.1.2.1, h.2.1, h.1.2.2, h.2.2.1, h.2.2.2⟩))
  have HB := Aside0.mk (below_alloc (below_step HB2.out hb) (.cells #[.int .i64 0, .int .i64 3, .int .i64 0, .int .i64 0, .bool true, .int .i64 0, .slice c6 1 c6', .slice c7 3 c7', .slice c8 0 c8'] 26))
  have q0 : (w3.alloc (.cells #[.int .i64 0, .int .i64 3, .int .i64 0, .int .i64 0, .bool true, .int .i64 0, .slice c6 1 c6', .slice c7 3 c7', .slice c8 0 c8'] 26)).cell? ⟨w2.heap.size, 0, none⟩ = some (.int .i64 1) := blk_cell HS3.out.here.1 0
  have q1 : (w3.alloc (.cells #[.int .i64 0, .int .i64 3, .int .i64 0, .int .i64 0, .bool true, .int .i64 0, .slice c6 1 c6', .slice c7 3 c7', .slice c8 0 c8'] 26)).cell? ⟨w2.heap.size, 1, none⟩ = some (.int .i64 3) := blk_cell HS3.out.here.1 1
  have q2 : (w3.alloc (.cells #[.int .i64 0, .int .i64 3, .int .i64 0, .int .i64 0, .bool true, .int .i64 0, .slice c6 1 c6', .slice c7 3 c7', .slice c8 0 c8'] 26)).cell? ⟨w2.heap.size, 2, none⟩ = some (.int .i64 0) := blk_cell HS3.out.here.1 2
  have q3 : (w3.alloc (.cells #[.int .i64 0, .int .i64 3, .int .i64 0, .int .i64 0, .bool true, .int .i64 0, .slice c6 1 c6', .slice c7 3 c7', .slice c8 0 c8'] 26)).cell? ⟨w2.heap.size, 3, none⟩ = some (.int .i64 0) := blk_cell HS3.out.here.1 3
  have q4 : (w3.alloc (.cells #[.int .i64 0, .int .i64 3, .int .i64 0, .int .i64 0, .bool true, .int .i64 0, .slice c6 1 c6', .slice c7 3 c7', .slice c8 0 c8'] 26)).cell? ⟨w2.heap.size, 4, none⟩ = some (.bool true) := blk_cell HS3.out.here.1 4
  have q5 : (w3.alloc (.cells #[.int .i64 0, .int .i64 3, .int .i64 0, .int .i64 0, .bool true, .int .i64 0, .slice c6 1 c6', .slice c7 3 c7', .slice c8 0 c8'] 26)).cell? ⟨w2.heap.size, 5, none⟩ = some (.int .i64 0) := blk_cell HS3.out.here.1 5
  have q6 : (w3.alloc (.cells #[.int .i64 0, .int .i64 3, .int .i64 0, .int .i64 0, .bool true, .int .i64 0, .slice c6 1 c6', .slice c7 3 c7', .slice c8 0 c8'] 26)).cell? ⟨w2.heap.size, 6, none⟩ = some (.slice b6 0 b6') := blk_cell HS3.out.here.1 6
  have q7 : (w3.alloc (.cells #[.int .i64 0, .int .i64 3, .int .i64 0, .int .i64 0, .bool true, .int .i64 0, .slice c6 1 c6', .slice c7 3 c7', .slice c8 0 c8'] 26)).cell? ⟨w2.heap.size, 7, none⟩ = some (.slice b7 3 b7') := blk_cell HS3.out.here.1 7
  have q8 : (w3.alloc (.cells #[.int .i64 0, .int .i64 3, .int .i64 0, .int .i64 0, .bool true, .int .i64 0, .slice c6 1 c6', .slice c7 3 c7', .slice c8 0 c8'] 26)).cell? ⟨w2.heap.size, 8, none⟩ = some (.slice b8 0 b8') := blk_cell HS3.out.here.1 8
  clear hA h9 hC hb hK HS2 HB2 p0 p1 p2 p3 p4 p5 p6 p7 p8
  obtain ⟨ad3, zM, zm, ze, z0, z1, z2, z3, z4, z5, z6, z7, zl, zh⟩ := at_T28 HS3.out.here.2.2.2.2 0 (by decide) (by decide)
  cases ze
  simp only [show (0 : Int).toNat = 0 from rfl, Nat.zero_mul, Nat.one_mul] at z0 z1 z2 z3 z4 z5 z6 z7
  change _ = some (Value.int .i64 1) at z0
  change _ = some (Value.int .i64 0) at z1
  change _ = some (Value.int .i64 1) at z2
  change _ = some (Value.int .i64 0) at z3
  change _ = some (Value.int .i64 0) at z4
  change _ = some (Value.int .i64 0) at z5
  change _ = some (Value.int .i64 0) at z6
  change _ = some (Value.slice zM 1 zm) at z7
  rw [show ad3.add 0 = ad3 from rfl] at z0 z1 z2 z3 z4 z5 z6 z7
  have HZ := Aside0.mk (show Kd.C Kd.string (w3.alloc (.cells #[.int .i64 0, .int .i64 3, .int .i64 0, .int .i64 0, .bool true, .int .i64 0, .slice c6 1 c6', .slice c7 3 c7', .slice c8 0 c8'] 26)) zM 1 [⟨#[97]⟩] from zh)
  have HZL := Aside0.mk (show 1 ≤ zm from zl)
  clear zh zl
  obtain ⟨ad3', yM, ym, ze, y0, y1, y2, y3, y4, y5, y6, y7, zl, zh⟩ := at_T28 HS3.out.here.2.2.2.2 1 (by decide) (by decide)
  cases ze
  simp only [show (1 : Int).toNat = 1 from rfl, Nat.zero_mul, Nat.one_mul] at y0 y1 y2 y3 y4 y5 y6 y7
  change _ = some (Value.int .i64 1) at y0
  change _ = some (Value.int .i64 0) at y1
  change _ = some (Value.int .i64 2) at y2
  change _ = some (Value.int .i64 0) at y3
  change _ = some (Value.int .i64 0) at y4
  change _ = some (Value.int .i64 0) at y5
  change _ = some (Value.int .i64 0) at y6
  change _ = some (Value.slice yM 1 ym) at y7
  change (w3.alloc (.cells #[.int .i64 0, .int .i64 3, .int .i64 0, .int .i64 0, .bool true, .int .i64 0, .slice c6 1 c6', .slice c7 3 c7', .slice c8 0 c8'] 26)).cell? ⟨ad3.block, ad3.off + 8 + 2, none⟩ = _ at y2
  clear y0 y1 y3 y4 y5 y6 y7 zh zl
  have HS := Aside0.mk (show Stays (w3.alloc (.cells #[.int .i64 0, .int .i64 3, .int .i64 0, .int .i64 0, .bool true, .int .i64 0, .slice c6 1 c6', .slice c7 3 c7', .slice c8 0 c8'] 26)) (fun W => W.heap[w2.heap.size]? = some (.cells #[.int .i64 1, .int .i64 3, .int .i64 0, .int .i64 0, .bool true, .int .i64 0, .slice b6 0 b6', .slice b7 3 b7', .slice b8 0 b8'] 26 (0, 0)) ∧ W.heap[w3.heap.size]? = some (.cells #[.int .i64 0, .int .i64 3, .int .i64 0, .int .i64 0, .bool true, .int .i64 0, .slice c6 1 c6', .slice c7 3 c7', .slice c8 0 c8'] 26 (0, 0)) ∧ Arg W (⟨1, 3, 0, 0, true, 0, [], [0, 0, 0], [], []⟩ : Nod) b6 b7 b8 b6' b7' b8' ∧ Arg W (⟨0, 3, 0, 0, true, 0, [⟨#[97]⟩], [1, 0, 0], [], [⟨1, 0, 1, 0, 0, 0, 0, [⟨#[97]⟩]⟩, ⟨1, 0, 2, 0, 0, 0, 0, [⟨#[97]⟩]⟩]⟩ : Nod) c6 c7 c8 c6' c7' c8') from HS3.out.mono (fun W' h => ⟨h.1, h.2.1, h.2.2.1, h.2.2.2.1⟩))
  clear HS3
  go_wp2_with (fail)
  clear y2
  generalize (w3.alloc (.cells #[.int .i64 0, .int .i64 3, .int .i64 0, .int .i64 0, .bool true, .int .i64 0, .slice c6 1 c6', .slice c7 3 c7', .slice c8 0 c8'] 26)) = wc at HS HB HZ q0 q1 q2 q3 q4 q5 q6 q7 q8 z0 z1 z2 z3 z4 z5 z6 z7 ⊢
  refine start_ (n := 13) (S := fun w' => w'.cell? ⟨w2.heap.size, 0, none⟩ = some (.int .i64 1) ∧ w'.cell? ⟨w2.heap.size, 1, none⟩ = some (.int .i64 3) ∧ w'.cell? ⟨w2.heap.size, 2, none⟩ = some (.int .i64 0) ∧ w'.cell? ⟨w2.heap.size, 3, none⟩ = some (.int .i64 0) ∧ w'.cell? ⟨w2.heap.size, 4, none⟩ = some (.bool true) ∧ w'.cell? ⟨w2.heap.size, 5, none⟩ = some (.int .i64 0) ∧ w'.cell? ⟨w2.heap.size, 6, none⟩ = some (.slice b6 0 b6') ∧ w'.cell? ⟨w2.heap.size, 7, none⟩ = some (.slice b7 3 b7') ∧ w'.cell? ⟨w2.heap.size, 8, none⟩ = some (.slice b8 0 b8') ∧ w'.cell? ad3 = some (.int .i64 1) ∧ w'.cell? ⟨ad3.block, ad3.off + 1, none⟩ = some (.int .i64 0) ∧ w'.cell? ⟨ad3.block, ad3.off + 2, none⟩ = some (.int .i64 1) ∧ w'.cell? ⟨ad3.block, ad3.off + 3, none⟩ = some (.int .i64 0) ∧ w'.cell? ⟨ad3.block, ad3.off + 4, none⟩ = some (.int .i64 0) ∧ w'.cell? ⟨ad3.block, ad3.off + 5, none⟩ = some (.int .i64 0) ∧ w'.cell? ⟨ad3.block, ad3.off + 6, none⟩ = some (.int .i64 0) ∧ w'.cell? ⟨ad3.block, ad3.off + 7, none⟩ = some (.slice zM 1 zm)) (ds := []) #[false, false, false, false, false, false, false, false, false, false, false, false, false] (by kernel_rfl) rfl rfl ⟨q0, q1, q2, q3, q4, q5, q6, q7, q8, z0, z1, z2, z3, z4, z5, z6, z7⟩ (fun hHeld => ?_)
  refine with_tabW wk_tab6 wk_bits6 (fun HT_ HW_ => ?_)
  have HS' : Aside0 (Stays wc.drew (fun W => W.heap[w2.heap.size]? = some (.cells #[.int .i64 1, .int .i64 3, .int .i64 0, .int .i64 0, .bool true, .int .i64 0, .slice b6 0 b6', .slice b7 3 b7', .slice b8 0 b8'] 26 (0, 0)) ∧ W.heap[w3.heap.size]? = some (.cells #[.int .i64 0, .int .i64 3, .int .i64 0, .int .i64 0, .bool true, .int .i64 0, .slice c6 1 c6', .slice c7 3 c7', .slice c8 0 c8'] 26 (0, 0)) ∧ Arg W (⟨1, 3, 0, 0, true, 0, [], [0, 0, 0], [], []⟩ : Nod) b6 b7 b8 b6' b7' b8' ∧ Arg W (⟨0, 3, 0, 0, true, 0, [⟨#[97]⟩], [1, 0, 0], [], [⟨1, 0, 1, 0, 0, 0, 0, [⟨#[97]⟩]⟩, ⟨1, 0, 2, 0, 0, 0, 0, [⟨#[97]⟩]⟩]⟩ : Nod) c6 c7 c8 c6' c7' c8')) := ⟨HS.out⟩
  have HB' : Aside0 (Below w.heap.size w wc.drew) := ⟨below_drew1 HB.out⟩
  have HZ' : Aside0 (Kd.C Kd.string wc.drew zM 1 [⟨#[97]⟩]) := ⟨HZ.out⟩
  have hgin' : w2.heap.size < wc.drew.heap.size := World.block_lt_of_cell? _ _ hHeld.1
  have had' : ad3.block < wc.drew.heap.size := World.block_lt_of_cell? _ _ hHeld.2.2.2.2.2.2.2.2.2.1
  clear HS HB HZ q0 q1 q2 q3 q4 q5 q6 q7 q8 z0 z1 z2 z3 z4 z5 z6 z7
  generalize wc.drew = w0_6 at HS' HB' HZ' hgin' had' hHeld ⊢
  have HB0 := Aside0.mk (below_size HB'.out)
  refine pure_ (i := 1) (N := some 65) (v := ?_) (a' := ?_) #[false, true, false, false, false, false, false, false, false, false, false, false, false] rfl rfl (any_of HT_.out (by kernel_rfl)) (fun _ _ _ h => h) (Or.inl ⟨by rfl, ?_⟩) ?_ ?_
  rotate_left
  · intro w'
    go_simp
    with_reducible rfl
  rotate_left
  · simp only [Act.put, List.setIfInBounds_toArray, List.set_cons_zero, List.set_cons_succ, i64_w, i32_w]
    rfl
  refine pure_ (i := 2) (N := some 66) (v := ?_) (a' := ?_) #[false, true, true, false, false, false, false, false, false, false, false, false, false] rfl rfl (any_of HT_.out (by kernel_rfl)) (fun _ _ _ h => h) (Or.inl ⟨by rfl, ?_⟩) ?_ ?_
  rotate_left
  · intro w'
    go_simp
    with_reducible rfl
  rotate_left
  · simp only [Act.put, List.setIfInBounds_toArray, List.set_cons_zero, List.set_cons_succ, i64_w, i32_w]
    rfl
  refine take_ (i := 0) (N := some 64) (v := ?_) (a' := ?_) #[true, true, true, false, false, false, false, false, false, false, false, false, false] rfl rfl (take_ofW HT_.out HW_.out (by kernel_rfl)) (fun _ _ _ h => h) (Or.inl ⟨by rfl, ?_⟩) hHeld ?_ ?_
  rotate_left
  · rintro w' ⟨s0, s1, s2, s3, s4, s5, s6, s7, s8, s9, s10, s11, s12, s13, s14, s15, s16⟩
    go_simp
    with_reducible rfl
  rotate_left
  · simp only [Act.put, List.setIfInBounds_toArray, List.set_cons_zero, List.set_cons_succ, i64_w, i32_w]
    rfl
  refine take_ (i := 3) (N := some 67) (v := ?_) (a' := ?_) #[true, true, true, true, false, false, false, false, false, false, false, false, false] rfl rfl (take_ofW HT_.out HW_.out (by kernel_rfl)) (fun _ _ _ h => h) (Or.inl ⟨by rfl, ?_⟩) hHeld ?_ ?_
  rotate_left
  · rintro w' ⟨s0, s1, s2, s3, s4, s5, s6, s7, s8, s9, s10, s11, s12, s13, s14, s15, s16⟩
    go_simp
    with_reducible rfl
  rotate_left
  · simp only [Act.put, List.setIfInBounds_toArray, List.set_cons_zero, List.set_cons_succ, i64_w, i32_w]
    rfl
  refine join_ (σ := Option Addr × Nat × Option Addr × Nat × Option Addr × Nat × Option Addr × Nat × Nat) 3 #[true, true, true, true, true, true, true, true, true, true, false, false, false] (fun s_ => [(68, .tuple #[.agg #[.int .i64 1, .int .i64 3, .int .i64 0, .int .i64 0, .bool true, .int .i64 0, .slice s_.1 1 s_.2.1, .slice s_.2.2.1 3 s_.2.2.2.1, .slice s_.2.2.2.2.1 0 s_.2.2.2.2.2.1], .slice s_.2.2.2.2.2.2.1 1 s_.2.2.2.2.2.2.2.1, .int .i64 0]), (8, .pointer (some ⟨s_.2.2.2.2.2.2.2.2, 0, none⟩)), (63, .tuple #[.agg #[.int .i64 1, .int .i64 3, .int .i64 0, .int .i64 0, .bool true, .int .i64 0, .slice s_.1 1 s_.2.1, .slice s_.2.2.1 3 s_.2.2.2.1, .slice s_.2.2.2.2.1 0 s_.2.2.2.2.2.1], .slice s_.2.2.2.2.2.2.1 1 s_.2.2.2.2.2.2.2.1, .int .i64 0]), (69, .agg #[.int .i64 1, .int .i64 3, .int .i64 0, .int .i64 0, .bool true, .int .i64 0, .slice s_.1 1 s_.2.1, .slice s_.2.2.1 3 s_.2.2.2.1, .slice s_.2.2.2.2.1 0 s_.2.2.2.2.2.1]), (70, .slice s_.2.2.2.2.2.2.1 1 s_.2.2.2.2.2.2.2.1), (71, .int .i64 0)]) (fun s_ w' => (w'.cell? ⟨w2.heap.size, 0, none⟩ = some (.int .i64 1) ∧ w'.cell? ⟨w2.heap.size, 1, none⟩ = some (.int .i64 3) ∧ w'.cell? ⟨w2.heap.size, 2, none⟩ = some (.int .i64 0) ∧ w'.cell? ⟨w2.heap.size, 3, none⟩ = some (.int .i64 0) ∧ w'.cell? ⟨w2.heap.size, 4, none⟩ = some (.bool true) ∧ w'.cell? ⟨w2.heap.size, 5, none⟩ = some (.int .i64 0) ∧ w'.cell? ⟨w2.heap.size, 6, none⟩ = some (.slice b6 0 b6') ∧ w'.cell? ⟨w2.heap.size, 7, none⟩ = some (.slice b7 3 b7') ∧ w'.cell? ⟨w2.heap.size, 8, none⟩ = some (.slice b8 0 b8') ∧ w'.cell? ad3 = some (.int .i64 1) ∧ w'.cell? ⟨ad3.block, ad3.off + 1, none⟩ = some (.int .i64 0) ∧ w'.cell? ⟨ad3.block, ad3.off + 2, none⟩ = some (.int .i64 1) ∧ w'.cell? ⟨ad3.block, ad3.off + 3, none⟩ = some (.int .i64 0) ∧ w'.cell? ⟨ad3.block, ad3.off + 4, none⟩ = some (.int .i64 0) ∧ w'.cell? ⟨ad3.block, ad3.off + 5, none⟩ = some (.int .i64 0) ∧ w'.cell? ⟨ad3.block, ad3.off + 6, none⟩ = some (.int .i64 0) ∧ w'.cell? ⟨ad3.block, ad3.off + 7, none⟩ = some (.slice zM 1 zm)) ∧ (w'.heap[s_.2.2.2.2.2.2.2.2]? = some (.cells #[.int .i64 0, .int .i64 0, .int .i64 0, .int .i64 0, .bool false, .int .i64 0, .slice none 0 0, .slice none 0 0, .slice none 0 0] 26 (0, 0))) ∧ (StaysBut w' s_.2.2.2.2.2.2.2.2 (fun W => W.heap[w2.heap.size]? = some (.cells #[.int .i64 1, .int .i64 3, .int .i64 0, .int .i64 0, .bool true, .int .i64 0, .slice b6 0 b6', .slice b7 3 b7', .slice b8 0 b8'] 26 (0, 0)) ∧ W.heap[w3.heap.size]? = some (.cells #[.int .i64 0, .int .i64 3, .int .i64 0, .int .i64 0, .bool true, .int .i64 0, .slice c6 1 c6', .slice c7 3 c7', .slice c8 0 c8'] 26 (0, 0)) ∧ Arg W (⟨1, 3, 0, 0, true, 0, [], [0, 0, 0], [], []⟩ : Nod) b6 b7 b8 b6' b7' b8' ∧ Arg W (⟨0, 3, 0, 0, true, 0, [⟨#[97]⟩], [1, 0, 0], [], [⟨1, 0, 1, 0, 0, 0, 0, [⟨#[97]⟩]⟩, ⟨1, 0, 2, 0, 0, 0, 0, [⟨#[97]⟩]⟩]⟩ : Nod) c6 c7 c8 c6' c7' c8' ∧ Arg W (⟨1, 3, 0, 0, true, 0, [⟨#[97]⟩], [0, 0, 0], [], [⟨2, 1, 0, 0, 0, 0, 1, []⟩]⟩ : Nod) s_.1 s_.2.2.1 s_.2.2.2.2.1 s_.2.1 s_.2.2.2.1 s_.2.2.2.2.2.1 ∧ Kd.C k28 W s_.2.2.2.2.2.2.1 1 [(⟨2, 1, 0, 0, 0, 0, 1, []⟩ : S28)])) ∧ (w0_6.heap.size ≤ s_.2.2.2.2.2.2.2.2) ∧ (Below w.heap.size w w')) ?_ ?_
  rotate_left
  · intro hCont
    refine two_ (i := 4) (j := 9) (Ni := some 68) (Nj := some 8) #[true, true, true, true, true, false, false, false, false, false, false, false, false] #[true, true, true, true, false, false, false, false, false, true, false, false, false] rfl rfl rfl rfl (two_of HT_.out (by kernel_rfl)) (by decide) (by decide) (fun K hK => ?_) (fun K hK => ?_)
    · skip
      refine goes_ Try.func8 (by kernel_rfl) rfl #[.agg #[.int .i64 1, .int .i64 3, .int .i64 0, .int .i64 0, .bool true, .int .i64 0, .slice b6 0 b6', .slice b7 3 b7', .slice b8 0 b8'], .agg #[.int .i64 1, .int .i64 0, .int .i64 1, .int .i64 0, .int .i64 0, .int .i64 0, .int .i64 0, .slice zM 1 zm]] (by rfl) rfl rfl (by (try simp only [List.map_toArray, List.map_cons, List.map_nil]); first | done | rfl) ?_
      with_reducible refine (w_handle1 _ _ _ _ _ _ _ zM zm (HS'.out.here).2.2.1 HZ'.out HZL.out).mono ?_
      rintro e w4 ⟨d6, d6', d7, d7', d8, d8', s6, s6', rfl, hA, h9, hC, hb, hKK⟩
      refine ⟨_, rfl, ?_⟩
      have hS4 : w4.cell? ⟨w2.heap.size, 0, none⟩ = some (.int .i64 1) ∧ w4.cell? ⟨w2.heap.size, 1, none⟩ = some (.int .i64 3) ∧ w4.cell? ⟨w2.heap.size, 2, none⟩ = some (.int .i64 0) ∧ w4.cell? ⟨w2.heap.size, 3, none⟩ = some (.int .i64 0) ∧ w4.cell? ⟨w2.heap.size, 4, none⟩ = some (.bool true) ∧ w4.cell? ⟨w2.heap.size, 5, none⟩ = some (.int .i64 0) ∧ w4.cell? ⟨w2.heap.size, 6, none⟩ = some (.slice b6 0 b6') ∧ w4.cell? ⟨w2.heap.size, 7, none⟩ = some (.slice b7 3 b7') ∧ w4.cell? ⟨w2.heap.size, 8, none⟩ = some (.slice b8 0 b8') ∧ w4.cell? ad3 = some (.int .i64 1) ∧ w4.cell? ⟨ad3.block, ad3.off + 1, none⟩ = some (.int .i64 0) ∧ w4.cell? ⟨ad3.block, ad3.off + 2, none⟩ = some (.int .i64 1) ∧ w4.cell? ⟨ad3.block, ad3.off + 3, none⟩ = some (.int .i64 0) ∧ w4.cell? ⟨ad3.block, ad3.off + 4, none⟩ = some (.int .i64 0) ∧ w4.cell? ⟨ad3.block, ad3.off + 5, none⟩ = some (.int .i64 0) ∧ w4.cell? ⟨ad3.block, ad3.off + 6, none⟩ = some (.int .i64 0) ∧ w4.cell? ⟨ad3.block, ad3.off + 7, none⟩ = some (.slice zM 1 zm) := ⟨(hb.cell (World.block_lt_of_cell? _ _ (hHeld.1))).trans (hHeld.1), (hb.cell (World.block_lt_of_cell? _ _ (hHeld.2.1))).trans (hHeld.2.1), (hb.cell (World.block_lt_of_cell? _ _ (hHeld.2.2.1))).trans (hHeld.2.2.1), (hb.cell (World.block_lt_of_cell? _ _ (hHeld.2.2.2.1))).trans (hHeld.2.2.2.1), (hb.cell (World.block_lt_of_cell? _ _ (hHeld.2.2.2.2.1))).trans (hHeld.2.2.2.2.1), (hb.cell (World.block_lt_of_cell? _ _ (hHeld.2.2.2.2.2.1))).trans (hHeld.2.2.2.2.2.1), (hb.cell (World.block_lt_of_cell? _ _ (hHeld.2.2.2.2.2.2.1))).trans (hHeld.2.2.2.2.2.2.1), (hb.cell (World.block_lt_of_cell? _ _ (hHeld.2.2.2.2.2.2.2.1))).trans (hHeld.2.2.2.2.2.2.2.1), (hb.cell (World.block_lt_of_cell? _ _ (hHeld.2.2.2.2.2.2.2.2.1))).trans (hHeld.2.2.2.2.2.2.2.2.1), (hb.cell (World.block_lt_of_cell? _ _ (hHeld.2.2.2.2.2.2.2.2.2.1))).trans (hHeld.2.2.2.2.2.2.2.2.2.1), (hb.cell (World.block_lt_of_cell? _ _ (hHeld.2.2.2.2.2.2.2.2.2.2.1))).trans (hHeld.2.2.2.2.2.2.2.2.2.2.1), (hb.cell (World.block_lt_of_cell? _ _ (hHeld.2.2.2.2.2.2.2.2.2.2.2.1))).trans (hHeld.2.2.2.2.2.2.2.2.2.2.2.1), (hb.cell (World.block_lt_of_cell? _ _ (hHeld.2.2.2.2.2.2.2.2.2.2.2.2.1))).trans (hHeld.2.2.2.2.2.2.2.2.2.2.2.2.1), (hb.cell (World.block_lt_of_cell? _ _ (hHeld.2.2.2.2.2.2.2.2.2.2.2.2.2.1))).trans (hHeld.2.2.2.2.2.2.2.2.2.2.2.2.2.1), (hb.cell (World.block_lt_of_cell? _ _ (hHeld.2.2.2.2.2.2.2.2.2.2.2.2.2.2.1))).trans (hHeld.2.2.2.2.2.2.2.2.2.2.2.2.2.2.1), (hb.cell (World.block_lt_of_cell? _ _ (hHeld.2.2.2.2.2.2.2.2.2.2.2.2.2.2.2.1))).trans (hHeld.2.2.2.2.2.2.2.2.2.2.2.2.2.2.2.1), (hb.cell (World.block_lt_of_cell? _ _ (hHeld.2.2.2.2.2.2.2.2.2.2.2.2.2.2.2.2))).trans (hHeld.2.2.2.2.2.2.2.2.2.2.2.2.2.2.2.2)⟩
      have HS4 := Aside0.mk ((HS'.out.below hb).and (Stays.of hKK))
      have HB4 := Aside0.mk (below_step HB'.out hb)
      have hz4 := hb.size
      clear hA h9 hC hb hKK hHeld
      refine hK.out _ _ hS4 (fun hHeld => ?_)
      clear hK K hS4
      refine norm_ (a' := ?_) ?_ ?_
      rotate_left
      · show Act.put _ (some 68) _ = _
        simp only [Act.put, List.setIfInBounds_toArray, List.set_cons_zero, List.set_cons_succ, i64_w, i32_w]
        rfl
      refine pure_ (i := 5) (N := some 63) (v := ?_) (a' := ?_) #[true, true, true, true, true, true, false, false, false, false, false, false, false] rfl rfl (any_of HT_.out (by kernel_rfl)) (fun _ _ _ h => h) (Or.inl ⟨by rfl, ?_⟩) ?_ ?_
      rotate_left
      · intro w'
        go_simp
        with_reducible rfl
      rotate_left
      · simp only [Act.put, List.setIfInBounds_toArray, List.set_cons_zero, List.set_cons_succ, i64_w, i32_w]
        rfl
      refine pure_ (i := 6) (N := some 69) (v := ?_) (a' := ?_) #[true, true, true, true, true, true, true, false, false, false, false, false, false] rfl rfl (any_of HT_.out (by kernel_rfl)) (fun _ _ _ h => h) (Or.inl ⟨by rfl, ?_⟩) ?_ ?_
      rotate_left
      · intro w'
        go_simp
        with_reducible rfl
      rotate_left
      · simp only [Act.put, List.setIfInBounds_toArray, List.set_cons_zero, List.set_cons_succ, i64_w, i32_w]
        rfl
      refine pure_ (i := 7) (N := some 70) (v := ?_) (a' := ?_) #[true, true, true, true, true, true, true, true, false, false, false, false, false] rfl rfl (any_of HT_.out (by kernel_rfl)) (fun _ _ _ h => h) (Or.inl ⟨by rfl, ?_⟩) ?_ ?_
      rotate_left
      · intro w'
        go_simp
        with_reducible rfl
      rotate_left
      · simp only [Act.put, List.setIfInBounds_toArray, List.set_cons_zero, List.set_cons_succ, i64_w, i32_w]
        rfl
      refine pure_ (i := 8) (N := some 71) (v := ?_) (a' := ?_) #[true, true, true, true, true, true, true, true, true, false, false, false, false] rfl rfl (any_of HT_.out (by kernel_rfl)) (fun _ _ _ h => h) (Or.inl ⟨by rfl, ?_⟩) ?_ ?_
      rotate_left
      · intro w'
        go_simp
        with_reducible rfl
      rotate_left
      · simp only [Act.put, List.setIfInBounds_toArray, List.set_cons_zero, List.set_cons_succ, i64_w, i32_w]
        rfl
      refine one_ (i := 9) (N := some 8) #[true, true, true, true, true, true, true, true, true, true, false, false, false] rfl rfl (one_of HT_.out (by kernel_rfl)) (by decide) (fun K hK => ?_)
      refine box_step ?hg (N := 8) ?hd (cs := #[.int .i64 0, .int .i64 0, .int .i64 0, .int .i64 0, .bool false, .int .i64 0, .slice none 0 0, .slice none 0 0, .slice none 0 0]) (t := 26) ?hr ?_; (case hd => rfl); (case hg => rfl); (case hr => first | (go_simp; done) | (go_simp; rfl))
      intro gd hg w5 hbox' hb
      have hS5 : w5.cell? ⟨w2.heap.size, 0, none⟩ = some (.int .i64 1) ∧ w5.cell? ⟨w2.heap.size, 1, none⟩ = some (.int .i64 3) ∧ w5.cell? ⟨w2.heap.size, 2, none⟩ = some (.int .i64 0) ∧ w5.cell? ⟨w2.heap.size, 3, none⟩ = some (.int .i64 0) ∧ w5.cell? ⟨w2.heap.size, 4, none⟩ = some (.bool true) ∧ w5.cell? ⟨w2.heap.size, 5, none⟩ = some (.int .i64 0) ∧ w5.cell? ⟨w2.heap.size, 6, none⟩ = some (.slice b6 0 b6') ∧ w5.cell? ⟨w2.heap.size, 7, none⟩ = some (.slice b7 3 b7') ∧ w5.cell? ⟨w2.heap.size, 8, none⟩ = some (.slice b8 0 b8') ∧ w5.cell? ad3 = some (.int .i64 1) ∧ w5.cell? ⟨ad3.block, ad3.off + 1, none⟩ = some (.int .i64 0) ∧ w5.cell? ⟨ad3.block, ad3.off + 2, none⟩ = some (.int .i64 1) ∧ w5.cell? ⟨ad3.block, ad3.off + 3, none⟩ = some (.int .i64 0) ∧ w5.cell? ⟨ad3.block, ad3.off + 4, none⟩ = some (.int .i64 0) ∧ w5.cell? ⟨ad3.block, ad3.off + 5, none⟩ = some (.int .i64 0) ∧ w5.cell? ⟨ad3.block, ad3.off + 6, none⟩ = some (.int .i64 0) ∧ w5.cell? ⟨ad3.block, ad3.off + 7, none⟩ = some (.slice zM 1 zm) := ⟨(hb.cell (World.block_lt_of_cell? _ _ (hHeld.1))).trans (hHeld.1), (hb.cell (World.block_lt_of_cell? _ _ (hHeld.2.1))).trans (hHeld.2.1), (hb.cell (World.block_lt_of_cell? _ _ (hHeld.2.2.1))).trans (hHeld.2.2.1), (hb.cell (World.block_lt_of_cell? _ _ (hHeld.2.2.2.1))).trans (hHeld.2.2.2.1), (hb.cell (World.block_lt_of_cell? _ _ (hHeld.2.2.2.2.1))).trans (hHeld.2.2.2.2.1), (hb.cell (World.block_lt_of_cell? _ _ (hHeld.2.2.2.2.2.1))).trans (hHeld.2.2.2.2.2.1), (hb.cell (World.block_lt_of_cell? _ _ (hHeld.2.2.2.2.2.2.1))).trans (hHeld.2.2.2.2.2.2.1), (hb.cell (World.block_lt_of_cell? _ _ (hHeld.2.2.2.2.2.2.2.1))).trans (hHeld.2.2.2.2.2.2.2.1), (hb.cell (World.block_lt_of_cell? _ _ (hHeld.2.2.2.2.2.2.2.2.1))).trans (hHeld.2.2.2.2.2.2.2.2.1), (hb.cell (World.block_lt_of_cell? _ _ (hHeld.2.2.2.2.2.2.2.2.2.1))).trans (hHeld.2.2.2.2.2.2.2.2.2.1), (hb.cell (World.block_lt_of_cell? _ _ (hHeld.2.2.2.2.2.2.2.2.2.2.1))).trans (hHeld.2.2.2.2.2.2.2.2.2.2.1), (hb.cell (World.block_lt_of_cell? _ _ (hHeld.2.2.2.2.2.2.2.2.2.2.2.1))).trans (hHeld.2.2.2.2.2.2.2.2.2.2.2.1), (hb.cell (World.block_lt_of_cell? _ _ (hHeld.2.2.2.2.2.2.2.2.2.2.2.2.1))).trans (hHeld.2.2.2.2.2.2.2.2.2.2.2.2.1), (hb.cell (World.block_lt_of_cell? _ _ (hHeld.2.2.2.2.2.2.2.2.2.2.2.2.2.1))).trans (hHeld.2.2.2.2.2.2.2.2.2.2.2.2.2.1), (hb.cell (World.block_lt_of_cell? _ _ (hHeld.2.2.2.2.2.2.2.2.2.2.2.2.2.2.1))).trans (hHeld.2.2.2.2.2.2.2.2.2.2.2.2.2.2.1), (hb.cell (World.block_lt_of_cell? _ _ (hHeld.2.2.2.2.2.2.2.2.2.2.2.2.2.2.2.1))).trans (hHeld.2.2.2.2.2.2.2.2.2.2.2.2.2.2.2.1), (hb.cell (World.block_lt_of_cell? _ _ (hHeld.2.2.2.2.2.2.2.2.2.2.2.2.2.2.2.2))).trans (hHeld.2.2.2.2.2.2.2.2.2.2.2.2.2.2.2.2)⟩
      have HF5 := HS4.out.but_new hg hb
      have HB5 := below_step HB4.out hb
      have hz5 : w0_6.heap.size ≤ gd := by rw [hg]; exact hz4
      refine hK.out _ _ hS5 (fun hHeld => ?_)
      clear hK K hS5
      refine norm_ (a' := ?_) ?_ ?_
      rotate_left
      · show Act.put _ (some 8) _ = _
        simp only [Act.put, List.setIfInBounds_toArray, List.set_cons_zero, List.set_cons_succ, i64_w, i32_w]
        rfl
      exact norm_ (by simp only [putAll, Act.put, List.setIfInBounds_toArray, List.set_cons_zero, List.set_cons_succ]) (hCont (d6, d6', d7, d7', d8, d8', s6, s6', gd) _ ⟨hHeld, hbox', HF5.mono (fun W' h => ⟨h.1.1, h.1.2.1, h.1.2.2.1, h.1.2.2.2, h.2.1, h.2.2⟩), hz5, HB5⟩)
    · skip
      refine box_step ?hg (N := 8) ?hd (cs := #[.int .i64 0, .int .i64 0, .int .i64 0, .int .i64 0, .bool false, .int .i64 0, .slice none 0 0, .slice none 0 0, .slice none 0 0]) (t := 26) ?hr ?_; (case hd => rfl); (case hg => rfl); (case hr => first | (go_simp; done) | (go_simp; rfl))
      intro gd hg w4 hbox hb4
      have hS4 : w4.cell? ⟨w2.heap.size, 0, none⟩ = some (.int .i64 1) ∧ w4.cell? ⟨w2.heap.size, 1, none⟩ = some (.int .i64 3) ∧ w4.cell? ⟨w2.heap.size, 2, none⟩ = some (.int .i64 0) ∧ w4.cell? ⟨w2.heap.size, 3, none⟩ = some (.int .i64 0) ∧ w4.cell? ⟨w2.heap.size, 4, none⟩ = some (.bool true) ∧ w4.cell? ⟨w2.heap.size, 5, none⟩ = some (.int .i64 0) ∧ w4.cell? ⟨w2.heap.size, 6, none⟩ = some (.slice b6 0 b6') ∧ w4.cell? ⟨w2.heap.size, 7, none⟩ = some (.slice b7 3 b7') ∧ w4.cell? ⟨w2.heap.size, 8, none⟩ = some (.slice b8 0 b8') ∧ w4.cell? ad3 = some (.int .i64 1) ∧ w4.cell? ⟨ad3.block, ad3.off + 1, none⟩ = some (.int .i64 0) ∧ w4.cell? ⟨ad3.block, ad3.off + 2, none⟩ = some (.int .i64 1) ∧ w4.cell? ⟨ad3.block, ad3.off + 3, none⟩ = some (.int .i64 0) ∧ w4.cell? ⟨ad3.block, ad3.off + 4, none⟩ = some (.int .i64 0) ∧ w4.cell? ⟨ad3.block, ad3.off + 5, none⟩ = some (.int .i64 0) ∧ w4.cell? ⟨ad3.block, ad3.off + 6, none⟩ = some (.int .i64 0) ∧ w4.cell? ⟨ad3.block, ad3.off + 7, none⟩ = some (.slice zM 1 zm) := ⟨(hb4.cell (World.block_lt_of_cell? _ _ (hHeld.1))).trans (hHeld.1), (hb4.cell (World.block_lt_of_cell? _ _ (hHeld.2.1))).trans (hHeld.2.1), (hb4.cell (World.block_lt_of_cell? _ _ (hHeld.2.2.1))).trans (hHeld.2.2.1), (hb4.cell (World.block_lt_of_cell? _ _ (hHeld.2.2.2.1))).trans (hHeld.2.2.2.1), (hb4.cell (World.block_lt_of_cell? _ _ (hHeld.2.2.2.2.1))).trans (hHeld.2.2.2.2.1), (hb4.cell (World.block_lt_of_cell? _ _ (hHeld.2.2.2.2.2.1))).trans (hHeld.2.2.2.2.2.1), (hb4.cell (World.block_lt_of_cell? _ _ (hHeld.2.2.2.2.2.2.1))).trans (hHeld.2.2.2.2.2.2.1), (hb4.cell (World.block_lt_of_cell? _ _ (hHeld.2.2.2.2.2.2.2.1))).trans (hHeld.2.2.2.2.2.2.2.1), (hb4.cell (World.block_lt_of_cell? _ _ (hHeld.2.2.2.2.2.2.2.2.1))).trans (hHeld.2.2.2.2.2.2.2.2.1), (hb4.cell (World.block_lt_of_cell? _ _ (hHeld.2.2.2.2.2.2.2.2.2.1))).trans (hHeld.2.2.2.2.2.2.2.2.2.1), (hb4.cell (World.block_lt_of_cell? _ _ (hHeld.2.2.2.2.2.2.2.2.2.2.1))).trans (hHeld.2.2.2.2.2.2.2.2.2.2.1), (hb4.cell (World.block_lt_of_cell? _ _ (hHeld.2.2.2.2.2.2.2.2.2.2.2.1))).trans (hHeld.2.2.2.2.2.2.2.2.2.2.2.1), (hb4.cell (World.block_lt_of_cell? _ _ (hHeld.2.2.2.2.2.2.2.2.2.2.2.2.1))).trans (hHeld.2.2.2.2.2.2.2.2.2.2.2.2.1), (hb4.cell (World.block_lt_of_cell? _ _ (hHeld.2.2.2.2.2.2.2.2.2.2.2.2.2.1))).trans (hHeld.2.2.2.2.2.2.2.2.2.2.2.2.2.1), (hb4.cell (World.block_lt_of_cell? _ _ (hHeld.2.2.2.2.2.2.2.2.2.2.2.2.2.2.1))).trans (hHeld.2.2.2.2.2.2.2.2.2.2.2.2.2.2.1), (hb4.cell (World.block_lt_of_cell? _ _ (hHeld.2.2.2.2.2.2.2.2.2.2.2.2.2.2.2.1))).trans (hHeld.2.2.2.2.2.2.2.2.2.2.2.2.2.2.2.1), (hb4.cell (World.block_lt_of_cell? _ _ (hHeld.2.2.2.2.2.2.2.2.2.2.2.2.2.2.2.2))).trans (hHeld.2.2.2.2.2.2.2.2.2.2.2.2.2.2.2.2)⟩
      have HF4 := HS'.out.but_new hg hb4
      have HB4 := Aside0.mk (below_step HB'.out hb4)
      have hz5 : w0_6.heap.size ≤ gd := Nat.le_of_eq hg.symm
      have hz6 : gd < w4.heap.size := blk_lt hbox
      refine hK.out _ _ hS4 (fun hHeld => ?_)
      clear hK K hS4
      refine norm_ (a' := ?_) ?_ ?_
      rotate_left
      · show Act.put _ (some 8) _ = _
        simp only [Act.put, List.setIfInBounds_toArray, List.set_cons_zero, List.set_cons_succ, i64_w, i32_w]
        rfl
      refine one_ (i := 4) (N := some 68) #[true, true, true, true, true, false, false, false, false, true, false, false, false] rfl rfl (one_of HT_.out (by kernel_rfl)) (by decide) (fun K hK => ?_)
      refine goes_ Try.func8 (by kernel_rfl) rfl #[.agg #[.int .i64 1, .int .i64 3, .int .i64 0, .int .i64 0, .bool true, .int .i64 0, .slice b6 0 b6', .slice b7 3 b7', .slice b8 0 b8'], .agg #[.int .i64 1, .int .i64 0, .int .i64 1, .int .i64 0, .int .i64 0, .int .i64 0, .int .i64 0, .slice zM 1 zm]] (by rfl) rfl rfl (by (try simp only [List.map_toArray, List.map_cons, List.map_nil]); first | done | rfl) ?_
      with_reducible refine (w_handle1 _ _ _ _ _ _ _ zM zm (HF4.here).2.2.1 (Kd.C_below HZ'.out hb4) HZL.out).mono ?_
      rintro e w5 ⟨d6, d6', d7, d7', d8, d8', s6, s6', rfl, hA, h9, hC, hb, hKK⟩
      refine ⟨_, rfl, ?_⟩
      have hS5 : w5.cell? ⟨w2.heap.size, 0, none⟩ = some (.int .i64 1) ∧ w5.cell? ⟨w2.heap.size, 1, none⟩ = some (.int .i64 3) ∧ w5.cell? ⟨w2.heap.size, 2, none⟩ = some (.int .i64 0) ∧ w5.cell? ⟨w2.heap.size, 3, none⟩ = some (.int .i64 0) ∧ w5.cell? ⟨w2.heap.size, 4, none⟩ = some (.bool true) ∧ w5.cell? ⟨w2.heap.size, 5, none⟩ = some (.int .i64 0) ∧ w5.cell? ⟨w2.heap.size, 6, none⟩ = some (.slice b6 0 b6') ∧ w5.cell? ⟨w2.heap.size, 7, none⟩ = some (.slice b7 3 b7') ∧ w5.cell? ⟨w2.heap.size, 8, none⟩ = some (.slice b8 0 b8') ∧ w5.cell? ad3 = some (.int .i64 1) ∧ w5.cell? ⟨ad3.block, ad3.off + 1, none⟩ = some (.int .i64 0) ∧ w5.cell? ⟨ad3.block, ad3.off + 2, none⟩ = some (.int .i64 1) ∧ w5.cell? ⟨ad3.block, ad3.off + 3, none⟩ = some (.int .i64 0) ∧ w5.cell? ⟨ad3.block, ad3.off + 4, none⟩ = some (.int .i64 0) ∧ w5.cell? ⟨ad3.block, ad3.off + 5, none⟩ = some (.int .i64 0) ∧ w5.cell? ⟨ad3.block, ad3.off + 6, none⟩ = some (.int .i64 0) ∧ w5.cell? ⟨ad3.block, ad3.off + 7, none⟩ = some (.slice zM 1 zm) := ⟨(hb.cell (World.block_lt_of_cell? _ _ (hHeld.1))).trans (hHeld.1), (hb.cell (World.block_lt_of_cell? _ _ (hHeld.2.1))).trans (hHeld.2.1), (hb.cell (World.block_lt_of_cell? _ _ (hHeld.2.2.1))).trans (hHeld.2.2.1), (hb.cell (World.block_lt_of_cell? _ _ (hHeld.2.2.2.1))).trans (hHeld.2.2.2.1), (hb.cell (World.block_lt_of_cell? _ _ (hHeld.2.2.2.2.1))).trans (hHeld.2.2.2.2.1), (hb.cell (World.block_lt_of_cell? _ _ (hHeld.2.2.2.2.2.1))).trans (hHeld.2.2.2.2.2.1), (hb.cell (World.block_lt_of_cell? _ _ (hHeld.2.2.2.2.2.2.1))).trans (hHeld.2.2.2.2.2.2.1), (hb.cell (World.block_lt_of_cell? _ _ (hHeld.2.2.2.2.2.2.2.1))).trans (hHeld.2.2.2.2.2.2.2.1), (hb.cell (World.block_lt_of_cell? _ _ (hHeld.2.2.2.2.2.2.2.2.1))).trans (hHeld.2.2.2.2.2.2.2.2.1), (hb.cell (World.block_lt_of_cell? _ _ (hHeld.2.2.2.2.2.2.2.2.2.1))).trans (hHeld.2.2.2.2.2.2.2.2.2.1), (hb.cell (World.block_lt_of_cell? _ _ (hHeld.2.2.2.2.2.2.2.2.2.2.1))).trans (hHeld.2.2.2.2.2.2.2.2.2.2.1), (hb.cell (World.block_lt_of_cell? _ _ (hHeld.2.2.2.2.2.2.2.2.2.2.2.1))).trans (hHeld.2.2.2.2.2.2.2.2.2.2.2.1), (hb.cell (World.block_lt_of_cell? _ _ (hHeld.2.2.2.2.2.2.2.2.2.2.2.2.1))).trans (hHeld.2.2.2.2.2.2.2.2.2.2.2.2.1), (hb.cell (World.block_lt_of_cell? _ _ (hHeld.2.2.2.2.2.2.2.2.2.2.2.2.2.1))).trans (hHeld.2.2.2.2.2.2.2.2.2.2.2.2.2.1), (hb.cell (World.block_lt_of_cell? _ _ (hHeld.2.2.2.2.2.2.2.2.2.2.2.2.2.2.1))).trans (hHeld.2.2.2.2.2.2.2.2.2.2.2.2.2.2.1), (hb.cell (World.block_lt_of_cell? _ _ (hHeld.2.2.2.2.2.2.2.2.2.2.2.2.2.2.2.1))).trans (hHeld.2.2.2.2.2.2.2.2.2.2.2.2.2.2.2.1), (hb.cell (World.block_lt_of_cell? _ _ (hHeld.2.2.2.2.2.2.2.2.2.2.2.2.2.2.2.2))).trans (hHeld.2.2.2.2.2.2.2.2.2.2.2.2.2.2.2.2)⟩
      have HF5 := (HF4.below hb).and (StaysBut.of hKK hz6)
      have HB5 := below_step HB4.out hb
      have hbox' := blk_below hbox hb
      clear hA h9 hC hKK hHeld
      refine hK.out _ _ hS5 (fun hHeld => ?_)
      clear hK K hS5
      refine norm_ (a' := ?_) ?_ ?_
      rotate_left
      · show Act.put _ (some 68) _ = _
        simp only [Act.put, List.setIfInBounds_toArray, List.set_cons_zero, List.set_cons_succ, i64_w, i32_w]
        rfl
      refine pure_ (i := 5) (N := some 63) (v := ?_) (a' := ?_) #[true, true, true, true, true, true, false, false, false, true, false, false, false] rfl rfl (any_of HT_.out (by kernel_rfl)) (fun _ _ _ h => h) (Or.inl ⟨by rfl, ?_⟩) ?_ ?_
      rotate_left
      · intro w'
        go_simp
        with_reducible rfl
      rotate_left
      · simp only [Act.put, List.setIfInBounds_toArray, List.set_cons_zero, List.set_cons_succ, i64_w, i32_w]
        rfl
      refine pure_ (i := 6) (N := some 69) (v := ?_) (a' := ?_) #[true, true, true, true, true, true, true, false, false, true, false, false, false] rfl rfl (any_of HT_.out (by kernel_rfl)) (fun _ _ _ h => h) (Or.inl ⟨by rfl, ?_⟩) ?_ ?_
      rotate_left
      · intro w'
        go_simp
        with_reducible rfl
      rotate_left
      · simp only [Act.put, List.setIfInBounds_toArray, List.set_cons_zero, List.set_cons_succ, i64_w, i32_w]
        rfl
      refine pure_ (i := 7) (N := some 70) (v := ?_) (a' := ?_) #[true, true, true, true, true, true, true, true, false, true, false, false, false] rfl rfl (any_of HT_.out (by kernel_rfl)) (fun _ _ _ h => h) (Or.inl ⟨by rfl, ?_⟩) ?_ ?_
      rotate_left
      · intro w'
        go_simp
        with_reducible rfl
      rotate_left
      · simp only [Act.put, List.setIfInBounds_toArray, List.set_cons_zero, List.set_cons_succ, i64_w, i32_w]
        rfl
      refine pure_ (i := 8) (N := some 71) (v := ?_) (a' := ?_) #[true, true, true, true, true, true, true, true, true, true, false, false, false] rfl rfl (any_of HT_.out (by kernel_rfl)) (fun _ _ _ h => h) (Or.inl ⟨by rfl, ?_⟩) ?_ ?_
      rotate_left
      · intro w'
        go_simp
        with_reducible rfl
      rotate_left
      · simp only [Act.put, List.setIfInBounds_toArray, List.set_cons_zero, List.set_cons_succ, i64_w, i32_w]
        rfl
      exact norm_ (by simp only [putAll, Act.put, List.setIfInBounds_toArray, List.set_cons_zero, List.set_cons_succ]) (hCont (d6, d6', d7, d7', d8, d8', s6, s6', gd) _ ⟨hHeld, hbox', HF5.mono (fun W' h => ⟨h.1.1, h.1.2.1, h.1.2.2.1, h.1.2.2.2, h.2.1, h.2.2⟩), hz5, HB5⟩)
  rintro ⟨d6, d6', d7, d7', d8, d8', s6, s6', gd⟩ w5 ⟨hHeld, hbox, HF5, hz5, HB5⟩
  clear HS' HB' HZ'
  replace hz5 : w0_6.heap.size ≤ gd := hz5
  replace hbox : w5.heap[gd]? = some (.cells #[.int .i64 0, .int .i64 0, .int .i64 0, .int .i64 0, .bool false, .int .i64 0, .slice none 0 0, .slice none 0 0, .slice none 0 0] 26 (0, 0)) := hbox
  replace HF5 : StaysBut w5 gd (fun W => W.heap[w2.heap.size]? = some (.cells #[.int .i64 1, .int .i64 3, .int .i64 0, .int .i64 0, .bool true, .int .i64 0, .slice b6 0 b6', .slice b7 3 b7', .slice b8 0 b8'] 26 (0, 0)) ∧ W.heap[w3.heap.size]? = some (.cells #[.int .i64 0, .int .i64 3, .int .i64 0, .int .i64 0, .bool true, .int .i64 0, .slice c6 1 c6', .slice c7 3 c7', .slice c8 0 c8'] 26 (0, 0)) ∧ Arg W (⟨1, 3, 0, 0, true, 0, [], [0, 0, 0], [], []⟩ : Nod) b6 b7 b8 b6' b7' b8' ∧ Arg W (⟨0, 3, 0, 0, true, 0, [⟨#[97]⟩], [1, 0, 0], [], [⟨1, 0, 1, 0, 0, 0, 0, [⟨#[97]⟩]⟩, ⟨1, 0, 2, 0, 0, 0, 0, [⟨#[97]⟩]⟩]⟩ : Nod) c6 c7 c8 c6' c7' c8' ∧ Arg W (⟨1, 3, 0, 0, true, 0, [⟨#[97]⟩], [0, 0, 0], [], [⟨2, 1, 0, 0, 0, 0, 1, []⟩]⟩ : Nod) d6 d7 d8 d6' d7' d8' ∧ Kd.C k28 W s6 1 [(⟨2, 1, 0, 0, 0, 0, 1, []⟩ : S28)]) := HF5
  refine norm_ (a' := ?_) ?_ ?_
  rotate_left
  · simp only [putAll, Act.put, List.setIfInBounds_toArray, List.set_cons_zero, List.set_cons_succ]
    rfl
  refine one_ (i := 10) (N := none) #[true, true, true, true, true, true, true, true, true, true, true, false, false] rfl rfl (one_of HT_.out (by kernel_rfl)) (by decide) (fun K hK => ?_)
  have hs0 : w5.cell? ⟨gd, 0, none⟩ = some (.int .i64 0) := (blk_cell hbox 0).trans rfl
  have hf0 := blk_frozen hbox 0
  have hs1 : w5.cell? ⟨gd, 1, none⟩ = some (.int .i64 0) := (blk_cell hbox 1).trans rfl
  have hf1 := blk_frozen hbox 1
  have hs2 : w5.cell? ⟨gd, 2, none⟩ = some (.int .i64 0) := (blk_cell hbox 2).trans rfl
  have hf2 := blk_frozen hbox 2
  have hs3 : w5.cell? ⟨gd, 3, none⟩ = some (.int .i64 0) := (blk_cell hbox 3).trans rfl
  have hf3 := blk_frozen hbox 3
  have hs4 : w5.cell? ⟨gd, 4, none⟩ = some (.bool false) := (blk_cell hbox 4).trans rfl
  have hf4 := blk_frozen hbox 4
  have hs5 : w5.cell? ⟨gd, 5, none⟩ = some (.int .i64 0) := (blk_cell hbox 5).trans rfl
  have hf5 := blk_frozen hbox 5
  have hs6 : w5.cell? ⟨gd, 6, none⟩ = some (.slice none 0 0) := (blk_cell hbox 6).trans rfl
  have hf6 := blk_frozen hbox 6
  have hs7 : w5.cell? ⟨gd, 7, none⟩ = some (.slice none 0 0) := (blk_cell hbox 7).trans rfl
  have hf7 := blk_frozen hbox 7
  have hs8 : w5.cell? ⟨gd, 8, none⟩ = some (.slice none 0 0) := (blk_cell hbox 8).trans rfl
  have hf8 := blk_frozen hbox 8
  refine skip_ (w1 := ?_) (by rfl) rfl ?_ ?_
  rotate_left
  · go_simp
    rfl
  have hP := put9 hbox (.int .i64 1) (.int .i64 3) (.int .i64 0) (.int .i64 0) (.bool true) (.int .i64 0) (.slice d6 1 d6') (.slice d7 3 d7') (.slice d8 0 d8')
  refine hK.out _ _ ⟨(World.cell?_of_block (w := w5) (hP.2 _ (by show w2.heap.size ≠ gd; omega))).trans (hHeld.1), (World.cell?_of_block (w := w5) (hP.2 _ (by show w2.heap.size ≠ gd; omega))).trans (hHeld.2.1), (World.cell?_of_block (w := w5) (hP.2 _ (by show w2.heap.size ≠ gd; omega))).trans (hHeld.2.2.1), (World.cell?_of_block (w := w5) (hP.2 _ (by show w2.heap.size ≠ gd; omega))).trans (hHeld.2.2.2.1), (World.cell?_of_block (w := w5) (hP.2 _ (by show w2.heap.size ≠ gd; omega))).trans (hHeld.2.2.2.2.1), (World.cell?_of_block (w := w5) (hP.2 _ (by show w2.heap.size ≠ gd; omega))).trans (hHeld.2.2.2.2.2.1), (World.cell?_of_block (w := w5) (hP.2 _ (by show w2.heap.size ≠ gd; omega))).trans (hHeld.2.2.2.2.2.2.1), (World.cell?_of_block (w := w5) (hP.2 _ (by show w2.heap.size ≠ gd; omega))).trans (hHeld.2.2.2.2.2.2.2.1), (World.cell?_of_block (w := w5) (hP.2 _ (by show w2.heap.size ≠ gd; omega))).trans (hHeld.2.2.2.2.2.2.2.2.1), (World.cell?_of_block (w := w5) (hP.2 _ (by show ad3.block ≠ gd; omega))).trans (hHeld.2.2.2.2.2.2.2.2.2.1), (World.cell?_of_block (w := w5) (hP.2 _ (by show ad3.block ≠ gd; omega))).trans (hHeld.2.2.2.2.2.2.2.2.2.2.1), (World.cell?_of_block (w := w5) (hP.2 _ (by show ad3.block ≠ gd; omega))).trans (hHeld.2.2.2.2.2.2.2.2.2.2.2.1), (World.cell?_of_block (w := w5) (hP.2 _ (by show ad3.block ≠ gd; omega))).trans (hHeld.2.2.2.2.2.2.2.2.2.2.2.2.1), (World.cell?_of_block (w := w5) (hP.2 _ (by show ad3.block ≠ gd; omega))).trans (hHeld.2.2.2.2.2.2.2.2.2.2.2.2.2.1), (World.cell?_of_block (w := w5) (hP.2 _ (by show ad3.block ≠ gd; omega))).trans (hHeld.2.2.2.2.2.2.2.2.2.2.2.2.2.2.1), (World.cell?_of_block (w := w5) (hP.2 _ (by show ad3.block ≠ gd; omega))).trans (hHeld.2.2.2.2.2.2.2.2.2.2.2.2.2.2.2.1), (World.cell?_of_block (w := w5) (hP.2 _ (by show ad3.block ≠ gd; omega))).trans (hHeld.2.2.2.2.2.2.2.2.2.2.2.2.2.2.2.2)⟩ (fun _ => ?_)
  clear hK K
  have HS := Aside0.mk (HF5.put (W1 := (((((((((w5.setCell ⟨gd, 0, none⟩ (.int .i64 1)).setCell ⟨gd, 1, none⟩ (.int .i64 3)).setCell ⟨gd, 2, none⟩ (.int .i64 0)).setCell ⟨gd, 3, none⟩ (.int .i64 0)).setCell ⟨gd, 4, none⟩ (.bool true)).setCell ⟨gd, 5, none⟩ (.int .i64 0)).setCell ⟨gd, 6, none⟩ (.slice d6 1 d6')).setCell ⟨gd, 7, none⟩ (.slice d7 3 d7')).setCell ⟨gd, 8, none⟩ (.slice d8 0 d8'))) (by simp [World.setCell]) hP.1 hP.2)
  have HB := Aside0.mk (put9_below HB5 (g := gd) (by have := HB0.out; omega) (.int .i64 1) (.int .i64 3) (.int .i64 0) (.int .i64 0) (.bool true) (.int .i64 0) (.slice d6 1 d6') (.slice d7 3 d7') (.slice d8 0 d8'))
  clear hP HF5 HB5 hbox hHeld hz5 hgin' had' hs0 hf0 hs1 hf1 hs2 hf2 hs3 hf3 hs4 hf4 hs5 hf5 hs6 hf6 hs7 hf7 hs8 hf8
  generalize (((((((((w5.setCell ⟨gd, 0, none⟩ (.int .i64 1)).setCell ⟨gd, 1, none⟩ (.int .i64 3)).setCell ⟨gd, 2, none⟩ (.int .i64 0)).setCell ⟨gd, 3, none⟩ (.int .i64 0)).setCell ⟨gd, 4, none⟩ (.bool true)).setCell ⟨gd, 5, none⟩ (.int .i64 0)).setCell ⟨gd, 6, none⟩ (.slice d6 1 d6')).setCell ⟨gd, 7, none⟩ (.slice d7 3 d7')).setCell ⟨gd, 8, none⟩ (.slice d8 0 d8')) = wd at HS HB ⊢
  refine pure_ (i := 11) (N := some 9) (v := ?_) (a' := ?_) #[true, true, true, true, true, true, true, true, true, true, true, true, false] rfl rfl (any_of HT_.out (by kernel_rfl)) (fun _ _ _ h => h) (Or.inl ⟨by rfl, ?_⟩) ?_ ?_
  rotate_left
  · intro w'
    go_simp
    with_reducible rfl
  rotate_left
  · simp only [Act.put, List.setIfInBounds_toArray, List.set_cons_zero, List.set_cons_succ, i64_w, i32_w]
    rfl
  refine pure_ (i := 12) (N := some 10) (v := ?_) (a' := ?_) #[true, true, true, true, true, true, true, true, true, true, true, true, true] rfl rfl (any_of HT_.out (by kernel_rfl)) (fun _ _ _ h => h) (Or.inl ⟨by rfl, ?_⟩) ?_ ?_
  rotate_left
  · intro w'
    go_simp
    with_reducible rfl
  rotate_left
  · simp only [Act.put, List.setIfInBounds_toArray, List.set_cons_zero, List.set_cons_succ, i64_w, i32_w]
    rfl
  refine done_ (done_of HT_.out (by kernel_rfl)) ?_
  clear HT_ HW_
  clear HZL HB0
  have q0 : wd.cell? ⟨w3.heap.size, 0, none⟩ = some (.int .i64 0) := blk_cell HS.out.here.2.2.1 0
  have q1 : wd.cell? ⟨w3.heap.size, 1, none⟩ = some (.int .i64 3) := blk_cell HS.out.here.2.2.1 1
  have q2 : wd.cell? ⟨w3.heap.size, 2, none⟩ = some (.int .i64 0) := blk_cell HS.out.here.2.2.1 2
  have q3 : wd.cell? ⟨w3.heap.size, 3, none⟩ = some (.int .i64 0) := blk_cell HS.out.here.2.2.1 3
  have q4 : wd.cell? ⟨w3.heap.size, 4, none⟩ = some (.bool true) := blk_cell HS.out.here.2.2.1 4
  have q5 : wd.cell? ⟨w3.heap.size, 5, none⟩ = some (.int .i64 0) := blk_cell HS.out.here.2.2.1 5
  have q6 : wd.cell? ⟨w3.heap.size, 6, none⟩ = some (.slice c6 1 c6') := blk_cell HS.out.here.2.2.1 6
  have q7 : wd.cell? ⟨w3.heap.size, 7, none⟩ = some (.slice c7 3 c7') := blk_cell HS.out.here.2.2.1 7
  have q8 : wd.cell? ⟨w3.heap.size, 8, none⟩ = some (.slice c8 0 c8') := blk_cell HS.out.here.2.2.1 8
  obtain ⟨ad6, yM, ym, ze, z0, z1, z2, z3, z4, z5, z6, z7, zl, zh⟩ := at_T28 HS.out.here.2.2.2.2.2.2 0 (by decide) (by decide)
  cases ze
  simp only [show (0 : Int).toNat = 0 from rfl, Nat.zero_mul, Nat.one_mul] at z0 z1 z2 z3 z4 z5 z6 z7
  change _ = some (Value.int .i64 2) at z0
  change _ = some (Value.int .i64 1) at z1
  change _ = some (Value.int .i64 0) at z2
  change _ = some (Value.int .i64 0) at z3
  change _ = some (Value.int .i64 0) at z4
  change _ = some (Value.int .i64 0) at z5
  change _ = some (Value.int .i64 1) at z6
  change _ = some (Value.slice yM 0 ym) at z7
  rw [show ad6.add 0 = ad6 from rfl] at z0 z1 z2 z3 z4 z5 z6 z7
  have HZ := Aside0.mk (show Kd.C Kd.string wd yM 0 [] from zh)
  have HZL := Aside0.mk (show 0 ≤ ym from zl)
  clear zh zl
  replace HS := Aside0.mk (show Stays wd (fun W => W.heap[w2.heap.size]? = some (.cells #[.int .i64 1, .int .i64 3, .int .i64 0, .int .i64 0, .bool true, .int .i64 0, .slice b6 0 b6', .slice b7 3 b7', .slice b8 0 b8'] 26 (0, 0)) ∧ W.heap[gd]? = some (.cells #[.int .i64 1, .int .i64 3, .int .i64 0, .int .i64 0, .bool true, .int .i64 0, .slice d6 1 d6', .slice d7 3 d7', .slice d8 0 d8'] 26 (0, 0)) ∧ Arg W (⟨1, 3, 0, 0, true, 0, [], [0, 0, 0], [], []⟩ : Nod) b6 b7 b8 b6' b7' b8' ∧ Arg W (⟨1, 3, 0, 0, true, 0, [⟨#[97]⟩], [0, 0, 0], [], [⟨2, 1, 0, 0, 0, 0, 1, []⟩]⟩ : Nod) d6 d7 d8 d6' d7' d8' ∧ Arg W (⟨0, 3, 0, 0, true, 0, [⟨#[97]⟩], [1, 0, 0], [], [⟨1, 0, 1, 0, 0, 0, 0, [⟨#[97]⟩]⟩, ⟨1, 0, 2, 0, 0, 0, 0, [⟨#[97]⟩]⟩]⟩ : Nod) c6 c7 c8 c6' c7' c8') from HS.out.mono (fun W' h => ⟨h.2.1, h.1, h.2.2.2.1, h.2.2.2.2.2.1, h.2.2.2.2.1⟩))
  go_wp2_with (fail)
  refine start_ (n := 13) (S := fun w' => w'.cell? ⟨w3.heap.size, 0, none⟩ = some (.int .i64 0) ∧ w'.cell? ⟨w3.heap.size, 1, none⟩ = some (.int .i64 3) ∧ w'.cell? ⟨w3.heap.size, 2, none⟩ = some (.int .i64 0) ∧ w'.cell? ⟨w3.heap.size, 3, none⟩ = some (.int .i64 0) ∧ w'.cell? ⟨w3.heap.size, 4, none⟩ = some (.bool true) ∧ w'.cell? ⟨w3.heap.size, 5, none⟩ = some (.int .i64 0) ∧ w'.cell? ⟨w3.heap.size, 6, none⟩ = some (.slice c6 1 c6') ∧ w'.cell? ⟨w3.heap.size, 7, none⟩ = some (.slice c7 3 c7') ∧ w'.cell? ⟨w3.heap.size, 8, none⟩ = some (.slice c8 0 c8') ∧ w'.cell? ad6 = some (.int .i64 2) ∧ w'.cell? ⟨ad6.block, ad6.off + 1, none⟩ = some (.int .i64 1) ∧ w'.cell? ⟨ad6.block, ad6.off + 2, none⟩ = some (.int .i64 0) ∧ w'.cell? ⟨ad6.block, ad6.off + 3, none⟩ = some (.int .i64 0) ∧ w'.cell? ⟨ad6.block, ad6.off + 4, none⟩ = some (.int .i64 0) ∧ w'.cell? ⟨ad6.block, ad6.off + 5, none⟩ = some (.int .i64 0) ∧ w'.cell? ⟨ad6.block, ad6.off + 6, none⟩ = some (.int .i64 1) ∧ w'.cell? ⟨ad6.block, ad6.off + 7, none⟩ = some (.slice yM 0 ym)) (ds := []) #[false, false, false, false, false, false, false, false, false, false, false, false, false] (by kernel_rfl) rfl rfl ⟨q0, q1, q2, q3, q4, q5, q6, q7, q8, z0, z1, z2, z3, z4, z5, z6, z7⟩ (fun hHeld => ?_)
  refine with_tabW wk_tab9 wk_bits9 (fun HT_ HW_ => ?_)
  have HS' : Aside0 (Stays wd.drew (fun W => W.heap[w2.heap.size]? = some (.cells #[.int .i64 1, .int .i64 3, .int .i64 0, .int .i64 0, .bool true, .int .i64 0, .slice b6 0 b6', .slice b7 3 b7', .slice b8 0 b8'] 26 (0, 0)) ∧ W.heap[gd]? = some (.cells #[.int .i64 1, .int .i64 3, .int .i64 0, .int .i64 0, .bool true, .int .i64 0, .slice d6 1 d6', .slice d7 3 d7', .slice d8 0 d8'] 26 (0, 0)) ∧ Arg W (⟨1, 3, 0, 0, true, 0, [], [0, 0, 0], [], []⟩ : Nod) b6 b7 b8 b6' b7' b8' ∧ Arg W (⟨1, 3, 0, 0, true, 0, [⟨#[97]⟩], [0, 0, 0], [], [⟨2, 1, 0, 0, 0, 0, 1, []⟩]⟩ : Nod) d6 d7 d8 d6' d7' d8' ∧ Arg W (⟨0, 3, 0, 0, true, 0, [⟨#[97]⟩], [1, 0, 0], [], [⟨1, 0, 1, 0, 0, 0, 0, [⟨#[97]⟩]⟩, ⟨1, 0, 2, 0, 0, 0, 0, [⟨#[97]⟩]⟩]⟩ : Nod) c6 c7 c8 c6' c7' c8')) := ⟨HS.out⟩
  have HB' : Aside0 (Below w.heap.size w wd.drew) := ⟨below_drew1 HB.out⟩
  have HZ' : Aside0 (Kd.C Kd.string wd.drew yM 0 []) := ⟨HZ.out⟩
  have hgin' : w3.heap.size < wd.drew.heap.size := World.block_lt_of_cell? _ _ hHeld.1
  have had' : ad6.block < wd.drew.heap.size := World.block_lt_of_cell? _ _ hHeld.2.2.2.2.2.2.2.2.2.1
  clear HS HB HZ q0 q1 q2 q3 q4 q5 q6 q7 q8 z0 z1 z2 z3 z4 z5 z6 z7
  generalize wd.drew = w0_9 at HS' HB' HZ' hgin' had' hHeld ⊢
  have HB0 := Aside0.mk (below_size HB'.out)
  refine pure_ (i := 1) (N := some 95) (v := ?_) (a' := ?_) #[false, true, false, false, false, false, false, false, false, false, false, false, false] rfl rfl (any_of HT_.out (by kernel_rfl)) (fun _ _ _ h => h) (Or.inl ⟨by rfl, ?_⟩) ?_ ?_
  rotate_left
  · intro w'
    go_simp
    with_reducible rfl
  rotate_left
  · simp only [Act.put, List.setIfInBounds_toArray, List.set_cons_zero, List.set_cons_succ, i64_w, i32_w]
    rfl
  refine pure_ (i := 2) (N := some 96) (v := ?_) (a' := ?_) #[false, true, true, false, false, false, false, false, false, false, false, false, false] rfl rfl (any_of HT_.out (by kernel_rfl)) (fun _ _ _ h => h) (Or.inl ⟨by rfl, ?_⟩) ?_ ?_
  rotate_left
  · intro w'
    go_simp
    with_reducible rfl
  rotate_left
  · simp only [Act.put, List.setIfInBounds_toArray, List.set_cons_zero, List.set_cons_succ, i64_w, i32_w]
    rfl
  refine take_ (i := 0) (N := some 94) (v := ?_) (a' := ?_) #[true, true, true, false, false, false, false, false, false, false, false, false, false] rfl rfl (take_ofW HT_.out HW_.out (by kernel_rfl)) (fun _ _ _ h => h) (Or.inl ⟨by rfl, ?_⟩) hHeld ?_ ?_
  rotate_left
  · rintro w' ⟨s0, s1, s2, s3, s4, s5, s6, s7, s8, s9, s10, s11, s12, s13, s14, s15, s16⟩
    go_simp
    with_reducible rfl
  rotate_left
  · simp only [Act.put, List.setIfInBounds_toArray, List.set_cons_zero, List.set_cons_succ, i64_w, i32_w]
    rfl
  refine take_ (i := 3) (N := some 97) (v := ?_) (a' := ?_) #[true, true, true, true, false, false, false, false, false, false, false, false, false] rfl rfl (take_ofW HT_.out HW_.out (by kernel_rfl)) (fun _ _ _ h => h) (Or.inl ⟨by rfl, ?_⟩) hHeld ?_ ?_
  rotate_left
  · rintro w' ⟨s0, s1, s2, s3, s4, s5, s6, s7, s8, s9, s10, s11, s12, s13, s14, s15, s16⟩
    go_simp
    with_reducible rfl
  rotate_left
  · simp only [Act.put, List.setIfInBounds_toArray, List.set_cons_zero, List.set_cons_succ, i64_w, i32_w]
    rfl
  refine join_ (σ := Option Addr × Nat × Option Addr × Nat × Option Addr × Nat × Option Addr × Nat × Nat) 3 #[true, true, true, true, true, true, true, true, true, true, false, false, false] (fun s_ => [(98, .tuple #[.agg #[.int .i64 0, .int .i64 3, .int .i64 0, .int .i64 0, .bool true, .int .i64 1, .slice s_.1 1 s_.2.1, .slice s_.2.2.1 3 s_.2.2.2.1, .slice s_.2.2.2.2.1 0 s_.2.2.2.2.2.1], .slice s_.2.2.2.2.2.2.1 2 s_.2.2.2.2.2.2.2.1, .int .i64 0]), (11, .pointer (some ⟨s_.2.2.2.2.2.2.2.2, 0, none⟩)), (93, .tuple #[.agg #[.int .i64 0, .int .i64 3, .int .i64 0, .int .i64 0, .bool true, .int .i64 1, .slice s_.1 1 s_.2.1, .slice s_.2.2.1 3 s_.2.2.2.1, .slice s_.2.2.2.2.1 0 s_.2.2.2.2.2.1], .slice s_.2.2.2.2.2.2.1 2 s_.2.2.2.2.2.2.2.1, .int .i64 0]), (99, .agg #[.int .i64 0, .int .i64 3, .int .i64 0, .int .i64 0, .bool true, .int .i64 1, .slice s_.1 1 s_.2.1, .slice s_.2.2.1 3 s_.2.2.2.1, .slice s_.2.2.2.2.1 0 s_.2.2.2.2.2.1]), (100, .slice s_.2.2.2.2.2.2.1 2 s_.2.2.2.2.2.2.2.1), (101, .int .i64 0)]) (fun s_ w' => (w'.cell? ⟨w3.heap.size, 0, none⟩ = some (.int .i64 0) ∧ w'.cell? ⟨w3.heap.size, 1, none⟩ = some (.int .i64 3) ∧ w'.cell? ⟨w3.heap.size, 2, none⟩ = some (.int .i64 0) ∧ w'.cell? ⟨w3.heap.size, 3, none⟩ = some (.int .i64 0) ∧ w'.cell? ⟨w3.heap.size, 4, none⟩ = some (.bool true) ∧ w'.cell? ⟨w3.heap.size, 5, none⟩ = some (.int .i64 0) ∧ w'.cell? ⟨w3.heap.size, 6, none⟩ = some (.slice c6 1 c6') ∧ w'.cell? ⟨w3.heap.size, 7, none⟩ = some (.slice c7 3 c7') ∧ w'.cell? ⟨w3.heap.size, 8, none⟩ = some (.slice c8 0 c8') ∧ w'.cell? ad6 = some (.int .i64 2) ∧ w'.cell? ⟨ad6.block, ad6.off + 1, none⟩ = some (.int .i64 1) ∧ w'.cell? ⟨ad6.block, ad6.off + 2, none⟩ = some (.int .i64 0) ∧ w'.cell? ⟨ad6.block, ad6.off + 3, none⟩ = some (.int .i64 0) ∧ w'.cell? ⟨ad6.block, ad6.off + 4, none⟩ = some (.int .i64 0) ∧ w'.cell? ⟨ad6.block, ad6.off + 5, none⟩ = some (.int .i64 0) ∧ w'.cell? ⟨ad6.block, ad6.off + 6, none⟩ = some (.int .i64 1) ∧ w'.cell? ⟨ad6.block, ad6.off + 7, none⟩ = some (.slice yM 0 ym)) ∧ (w'.heap[s_.2.2.2.2.2.2.2.2]? = some (.cells #[.int .i64 0, .int .i64 0, .int .i64 0, .int .i64 0, .bool false, .int .i64 0, .slice none 0 0, .slice none 0 0, .slice none 0 0] 26 (0, 0))) ∧ (StaysBut w' s_.2.2.2.2.2.2.2.2 (fun W => W.heap[w2.heap.size]? = some (.cells #[.int .i64 1, .int .i64 3, .int .i64 0, .int .i64 0, .bool true, .int .i64 0, .slice b6 0 b6', .slice b7 3 b7', .slice b8 0 b8'] 26 (0, 0)) ∧ W.heap[gd]? = some (.cells #[.int .i64 1, .int .i64 3, .int .i64 0, .int .i64 0, .bool true, .int .i64 0, .slice d6 1 d6', .slice d7 3 d7', .slice d8 0 d8'] 26 (0, 0)) ∧ Arg W (⟨1, 3, 0, 0, true, 0, [], [0, 0, 0], [], []⟩ : Nod) b6 b7 b8 b6' b7' b8' ∧ Arg W (⟨1, 3, 0, 0, true, 0, [⟨#[97]⟩], [0, 0, 0], [], [⟨2, 1, 0, 0, 0, 0, 1, []⟩]⟩ : Nod) d6 d7 d8 d6' d7' d8' ∧ Arg W (⟨0, 3, 0, 0, true, 0, [⟨#[97]⟩], [1, 0, 0], [], [⟨1, 0, 1, 0, 0, 0, 0, [⟨#[97]⟩]⟩, ⟨1, 0, 2, 0, 0, 0, 0, [⟨#[97]⟩]⟩]⟩ : Nod) c6 c7 c8 c6' c7' c8' ∧ Arg W (⟨0, 3, 0, 0, true, 1, [⟨#[97]⟩], [1, 1, 0], [], [⟨1, 0, 1, 0, 0, 1, 0, [⟨#[97]⟩]⟩, ⟨1, 0, 2, 0, 0, 1, 0, [⟨#[97]⟩]⟩]⟩ : Nod) s_.1 s_.2.2.1 s_.2.2.2.2.1 s_.2.1 s_.2.2.2.1 s_.2.2.2.2.2.1 ∧ Kd.C k28 W s_.2.2.2.2.2.2.1 2 [(⟨1, 0, 1, 0, 0, 1, 0, [⟨#[97]⟩]⟩ : S28), ⟨1, 0, 2, 0, 0, 1, 0, [⟨#[97]⟩]⟩])) ∧ (w0_9.heap.size ≤ s_.2.2.2.2.2.2.2.2) ∧ (Below w.heap.size w w')) ?_ ?_
  rotate_left
  · intro hCont
    refine two_ (i := 4) (j := 9) (Ni := some 98) (Nj := some 11) #[true, true, true, true, true, false, false, false, false, false, false, false, false] #[true, true, true, true, false, false, false, false, false, true, false, false, false] rfl rfl rfl rfl (two_of HT_.out (by kernel_rfl)) (by decide) (by decide) (fun K hK => ?_) (fun K hK => ?_)
    · skip
      refine goes_ Try.func8 (by kernel_rfl) rfl #[.agg #[.int .i64 0, .int .i64 3, .int .i64 0, .int .i64 0, .bool true, .int .i64 0, .slice c6 1 c6', .slice c7 3 c7', .slice c8 0 c8'], .agg #[.int .i64 2, .int .i64 1, .int .i64 0, .int .i64 0, .int .i64 0, .int .i64 0, .int .i64 1, .slice yM 0 ym]] (by rfl) rfl rfl (by (try simp only [List.map_toArray, List.map_cons, List.map_nil]); first | done | rfl) ?_
      with_reducible refine (w_handle2 _ _ _ _ _ _ _ yM ym (HS'.out.here).2.2.2.2 HZ'.out HZL.out).mono ?_
      rintro e w4 ⟨x6, x6', x7, x7', x8, x8', u6, u6', rfl, hA, h9, hC, hb, hKK⟩
      refine ⟨_, rfl, ?_⟩
      have hS4 : w4.cell? ⟨w3.heap.size, 0, none⟩ = some (.int .i64 0) ∧ w4.cell? ⟨w3.heap.size, 1, none⟩ = some (.int .i64 3) ∧ w4.cell? ⟨w3.heap.size, 2, none⟩ = some (.int .i64 0) ∧ w4.cell? ⟨w3.heap.size, 3, none⟩ = some (.int .i64 0) ∧ w4.cell? ⟨w3.heap.size, 4, none⟩ = some (.bool true) ∧ w4.cell? ⟨w3.heap.size, 5, none⟩ = some (.int .i64 0) ∧ w4.cell? ⟨w3.heap.size, 6, none⟩ = some (.slice c6 1 c6') ∧ w4.cell? ⟨w3.heap.size, 7, none⟩ = some (.slice c7 3 c7') ∧ w4.cell? ⟨w3.heap.size, 8, none⟩ = some (.slice c8 0 c8') ∧ w4.cell? ad6 = some (.int .i64 2) ∧ w4.cell? ⟨ad6.block, ad6.off + 1, none⟩ = some (.int .i64 1) ∧ w4.cell? ⟨ad6.block, ad6.off + 2, none⟩ = some (.int .i64 0) ∧ w4.cell? ⟨ad6.block, ad6.off + 3, none⟩ = some (.int .i64 0) ∧ w4.cell? ⟨ad6.block, ad6.off + 4, none⟩ = some (.int .i64 0) ∧ w4.cell? ⟨ad6.block, ad6.off + 5, none⟩ = some (.int .i64 0) ∧ w4.cell? ⟨ad6.block, ad6.off + 6, none⟩ = some (.int .i64 1) ∧ w4.cell? ⟨ad6.block, ad6.off + 7, none⟩ = some (.slice yM 0 ym) := ⟨(hb.cell (World.block_lt_of_cell? _ _ (hHeld.1))).trans (hHeld.1), (hb.cell (World.block_lt_of_cell? _ _ (hHeld.2.1))).trans (hHeld.2.1), (hb.cell (World.block_lt_of_cell? _ _ (hHeld.2.2.1))).trans (hHeld.2.2.1), (hb.cell (World.block_lt_of_cell? _ _ (hHeld.2.2.2.1))).trans (hHeld.2.2.2.1), (hb.cell (World.block_lt_of_cell? _ _ (hHeld.2.2.2.2.1))).trans (hHeld.2.2.2.2.1), (hb.cell (World.block_lt_of_cell? _ _ (hHeld.2.2.2.2.2.1))).trans (hHeld.2.2.2.2.2.1), (hb.cell (World.block_lt_of_cell? _ _ (hHeld.2.2.2.2.2.2.1))).trans (hHeld.2.2.2.2.2.2.1), (hb.cell (World.block_lt_of_cell? _ _ (hHeld.2.2.2.2.2.2.2.1))).trans (hHeld.2.2.2.2.2.2.2.1), (hb.cell (World.block_lt_of_cell? _ _ (hHeld.2.2.2.2.2.2.2.2.1))).trans (hHeld.2.2.2.2.2.2.2.2.1), (hb.cell (World.block_lt_of_cell? _ _ (hHeld.2.2.2.2.2.2.2.2.2.1))).trans (hHeld.2.2.2.2.2.2.2.2.2.1), (hb.cell (World.block_lt_of_cell? _ _ (hHeld.2.2.2.2.2.2.2.2.2.2.1))).trans (hHeld.2.2.2.2.2.2.2.2.2.2.1), (hb.cell (World.block_lt_of_cell? _ _ (hHeld.2.2.2.2.2.2.2.2.2.2.2.1))).trans (hHeld.2.2.2.2.2.2.2.2.2.2.2.1), (hb.cell (World.block_lt_of_cell? _ _ (hHeld.2.2.2.2.2.2.2.2.2.2.2.2.1))).trans (hHeld.2.2.2.2.2.2.2.2.2.2.2.2.1), (hb.cell (World.block_lt_of_cell? _ _ (hHeld.2.2.2.2.2.2.2.2.2.2.2.2.2.1))).trans (hHeld.2.2.2.2.2.2.2.2.2.2.2.2.2.1), (hb.cell (World.block_lt_of_cell? _ _ (hHeld.2.2.2.2.2.2.2.2.2.2.2.2.2.2.1))).trans (hHeld.2.2.2.2.2.2.2.2.2.2.2.2.2.2.1), (hb.cell (World.block_lt_of_cell? _ _ (hHeld.2.2.2.2.2.2.2.2.2.2.2.2.2.2.2.1))).trans (hHeld.2.2.2.2.2.2.2.2.2.2.2.2.2.2.2.1), (hb.cell (World.block_lt_of_cell? _ _ (hHeld.2.2.2.2.2.2.2.2.2.2.2.2.2.2.2.2))).trans (hHeld.2.2.2.2.2.2.2.2.2.2.2.2.2.2.2.2)⟩
      have HS4 := Aside0.mk ((HS'.out.below hb).and (Stays.of hKK))
      have HB4 := Aside0.mk (below_step HB'.out hb)
      have hz4 := hb.size
      clear hA h9 hC hb hKK hHeld
      refine hK.out _ _ hS4 (fun hHeld => ?_)
      clear hK K hS4
      refine norm_ (a' := ?_) ?_ ?_
      rotate_left
      · show Act.put _ (some 98) _ = _
        simp only [Act.put, List.setIfInBounds_toArray, List.set_cons_zero, List.set_cons_succ, i64_w, i32_w]
        rfl
      refine pure_ (i := 5) (N := some 93) (v := ?_) (a' := ?_) #[true, true, true, true, true, true, false, false, false, false, false, false, false] rfl rfl (any_of HT_.out (by kernel_rfl)) (fun _ _ _ h => h) (Or.inl ⟨by rfl, ?_⟩) ?_ ?_
      rotate_left
      · intro w'
        go_simp
        with_reducible rfl
      rotate_left
      · simp only [Act.put, List.setIfInBounds_toArray, List.set_cons_zero, List.set_cons_succ, i64_w, i32_w]
        rfl
      refine pure_ (i := 6) (N := some 99) (v := ?_) (a' := ?_) #[true, true, true, true, true, true, true, false, false, false, false, false, false] rfl rfl (any_of HT_.out (by kernel_rfl)) (fun _ _ _ h => h) (Or.inl ⟨by rfl, ?_⟩) ?_ ?_
      rotate_left
      · intro w'
        go_simp
        with_reducible rfl
      rotate_left
      · simp only [Act.put, List.setIfInBounds_toArray, List.set_cons_zero, List.set_cons_succ, i64_w, i32_w]
        rfl
      refine pure_ (i := 7) (N := some 100) (v := ?_) (a' := ?_) #[true, true, true, true, true, true, true, true, false, false, false, false, false] rfl rfl (any_of HT_.out (by kernel_rfl)) (fun _ _ _ h => h) (Or.inl ⟨by rfl, ?_⟩) ?_ ?_
      rotate_left
      · intro w'
        go_simp
        with_reducible rfl
      rotate_left
      · simp only [Act.put, List.setIfInBounds_toArray, List.set_cons_zero, List.set_cons_succ, i64_w, i32_w]
        rfl
      refine pure_ (i := 8) (N := some 101) (v := ?_) (a' := ?_) #[true, true, true, true, true, true, true, true, true, false, false, false, false] rfl rfl (any_of HT_.out (by kernel_rfl)) (fun _ _ _ h => h) (Or.inl ⟨by rfl, ?_⟩) ?_ ?_
      rotate_left
      · intro w'
        go_simp
        with_reducible rfl
      rotate_left
      · simp only [Act.put, List.setIfInBounds_toArray, List.set_cons_zero, List.set_cons_succ, i64_w, i32_w]
        rfl
      refine one_ (i := 9) (N := some 11) #[true, true, true, true, true, true, true, true, true, true, false, false, false] rfl rfl (one_of HT_.out (by kernel_rfl)) (by decide) (fun K hK => ?_)
      refine box_step ?hg (N := 11) ?hd (cs := #[.int .i64 0, .int .i64 0, .int .i64 0, .int .i64 0, .bool false, .int .i64 0, .slice none 0 0, .slice none 0 0, .slice none 0 0]) (t := 26) ?hr ?_; (case hd => rfl); (case hg => rfl); (case hr => first | (go_simp; done) | (go_simp; rfl))
      intro gx hg w5 hbox' hb
      have hS5 : w5.cell? ⟨w3.heap.size, 0, none⟩ = some (.int .i64 0) ∧ w5.cell? ⟨w3.heap.size, 1, none⟩ = some (.int .i64 3) ∧ w5.cell? ⟨w3.heap.size, 2, none⟩ = some (.int .i64 0) ∧ w5.cell? ⟨w3.heap.size, 3, none⟩ = some (.int .i64 0) ∧ w5.cell? ⟨w3.heap.size, 4, none⟩ = some (.bool true) ∧ w5.cell? ⟨w3.heap.size, 5, none⟩ = some (.int .i64 0) ∧ w5.cell? ⟨w3.heap.size, 6, none⟩ = some (.slice c6 1 c6') ∧ w5.cell? ⟨w3.heap.size, 7, none⟩ = some (.slice c7 3 c7') ∧ w5.cell? ⟨w3.heap.size, 8, none⟩ = some (.slice c8 0 c8') ∧ w5.cell? ad6 = some (.int .i64 2) ∧ w5.cell? ⟨ad6.block, ad6.off + 1, none⟩ = some (.int .i64 1) ∧ w5.cell? ⟨ad6.block, ad6.off + 2, none⟩ = some (.int .i64 0) ∧ w5.cell? ⟨ad6.block, ad6.off + 3, none⟩ = some (.int .i64 0) ∧ w5.cell? ⟨ad6.block, ad6.off + 4, none⟩ = some (.int .i64 0) ∧ w5.cell? ⟨ad6.block, ad6.off + 5, none⟩ = some (.int .i64 0) ∧ w5.cell? ⟨ad6.block, ad6.off + 6, none⟩ = some (.int .i64 1) ∧ w5.cell? ⟨ad6.block, ad6.off + 7, none⟩ = some (.slice yM 0 ym) := ⟨(hb.cell (World.block_lt_of_cell? _ _ (hHeld.1))).trans (hHeld.1), (hb.cell (World.block_lt_of_cell? _ _ (hHeld.2.1))).trans (hHeld.2.1), (hb.cell (World.block_lt_of_cell? _ _ (hHeld.2.2.1))).trans (hHeld.2.2.1), (hb.cell (World.block_lt_of_cell? _ _ (hHeld.2.2.2.1))).trans (hHeld.2.2.2.1), (hb.cell (World.block_lt_of_cell? _ _ (hHeld.2.2.2.2.1))).trans (hHeld.2.2.2.2.1), (hb.cell (World.block_lt_of_cell? _ _ (hHeld.2.2.2.2.2.1))).trans (hHeld.2.2.2.2.2.1), (hb.cell (World.block_lt_of_cell? _ _ (hHeld.2.2.2.2.2.2.1))).trans (hHeld.2.2.2.2.2.2.1), (hb.cell (World.block_lt_of_cell? _ _ (hHeld.2.2.2.2.2.2.2.1))).trans (hHeld.2.2.2.2.2.2.2.1), (hb.cell (World.block_lt_of_cell? _ _ (hHeld.2.2.2.2.2.2.2.2.1))).trans (hHeld.2.2.2.2.2.2.2.2.1), (hb.cell (World.block_lt_of_cell? _ _ (hHeld.2.2.2.2.2.2.2.2.2.1))).trans (hHeld.2.2.2.2.2.2.2.2.2.1), (hb.cell (World.block_lt_of_cell? _ _ (hHeld.2.2.2.2.2.2.2.2.2.2.1))).trans (hHeld.2.2.2.2.2.2.2.2.2.2.1), (hb.cell (World.block_lt_of_cell? _ _ (hHeld.2.2.2.2.2.2.2.2.2.2.2.1))).trans (hHeld.2.2.2.2.2.2.2.2.2.2.2.1), (hb.cell (World.block_lt_of_cell? _ _ (hHeld.2.2.2.2.2.2.2.2.2.2.2.2.1))).trans (hHeld.2.2.2.2.2.2.2.2.2.2.2.2.1), (hb.cell (World.block_lt_of_cell? _ _ (hHeld.2.2.2.2.2.2.2.2.2.2.2.2.2.1))).trans (hHeld.2.2.2.2.2.2.2.2.2.2.2.2.2.1), (hb.cell (World.block_lt_of_cell? _ _ (hHeld.2.2.2.2.2.2.2.2.2.2.2.2.2.2.1))).trans (hHeld.2.2.2.2.2.2.2.2.2.2.2.2.2.2.1), (hb.cell (World.block_lt_of_cell? _ _ (hHeld.2.2.2.2.2.2.2.2.2.2.2.2.2.2.2.1))).trans (hHeld.2.2.2.2.2.2.2.2.2.2.2.2.2.2.2.1), (hb.cell (World.block_lt_of_cell? _ _ (hHeld.2.2.2.2.2.2.2.2.2.2.2.2.2.2.2.2))).trans (hHeld.2.2.2.2.2.2.2.2.2.2.2.2.2.2.2.2)⟩
      have HF5 := HS4.out.but_new hg hb
      have HB5 := below_step HB4.out hb
      have hz5 : w0_9.heap.size ≤ gx := by rw [hg]; exact hz4
      refine hK.out _ _ hS5 (fun hHeld => ?_)
      clear hK K hS5
      refine norm_ (a' := ?_) ?_ ?_
      rotate_left
      · show Act.put _ (some 11) _ = _
        simp only [Act.put, List.setIfInBounds_toArray, List.set_cons_zero, List.set_cons_succ, i64_w, i32_w]
        rfl
      exact norm_ (by simp only [putAll, Act.put, List.setIfInBounds_toArray, List.set_cons_zero, List.set_cons_succ]) (hCont (x6, x6', x7, x7', x8, x8', u6, u6', gx) _ ⟨hHeld, hbox', HF5.mono (fun W' h => ⟨h.1.1, h.1.2.1, h.1.2.2.1, h.1.2.2.2.1, h.1.2.2.2.2, h.2.1, h.2.2⟩), hz5, HB5⟩)
    · skip
      refine box_step ?hg (N := 11) ?hd (cs := #[.int .i64 0, .int .i64 0, .int .i64 0, .int .i64 0, .bool false, .int .i64 0, .slice none 0 0, .slice none 0 0, .slice none 0 0]) (t := 26) ?hr ?_; (case hd => rfl); (case hg => rfl); (case hr => first | (go_simp; done) | (go_simp; rfl))
      intro gx hg w4 hbox hb4
      have hS4 : w4.cell? ⟨w3.heap.size, 0, none⟩ = some (.int .i64 0) ∧ w4.cell? ⟨w3.heap.size, 1, none⟩ = some (.int .i64 3) ∧ w4.cell? ⟨w3.heap.size, 2, none⟩ = some (.int .i64 0) ∧ w4.cell? ⟨w3.heap.size, 3, none⟩ = some (.int .i64 0) ∧ w4.cell? ⟨w3.heap.size, 4, none⟩ = some (.bool true) ∧ w4.cell? ⟨w3.heap.size, 5, none⟩ = some (.int .i64 0) ∧ w4.cell? ⟨w3.heap.size, 6, none⟩ = some (.slice c6 1 c6') ∧ w4.cell? ⟨w3.heap.size, 7, none⟩ = some (.slice c7 3 c7') ∧ w4.cell? ⟨w3.heap.size, 8, none⟩ = some (.slice c8 0 c8') ∧ w4.cell? ad6 = some (.int .i64 2) ∧ w4.cell? ⟨ad6.block, ad6.off + 1, none⟩ = some (.int .i64 1) ∧ w4.cell? ⟨ad6.block, ad6.off + 2, none⟩ = some (.int .i64 0) ∧ w4.cell? ⟨ad6.block, ad6.off + 3, none⟩ = some (.int .i64 0) ∧ w4.cell? ⟨ad6.block, ad6.off + 4, none⟩ = some (.int .i64 0) ∧ w4.cell? ⟨ad6.block, ad6.off + 5, none⟩ = some (.int .i64 0) ∧ w4.cell? ⟨ad6.block, ad6.off + 6, none⟩ = some (.int .i64 1) ∧ w4.cell? ⟨ad6.block, ad6.off + 7, none⟩ = some (.slice yM 0 ym) := ⟨(hb4.cell (World.block_lt_of_cell? _ _ (hHeld.1))).trans (hHeld.1), (hb4.cell (World.block_lt_of_cell? _ _ (hHeld.2.1))).trans (hHeld.2.1), (hb4.cell (World.block_lt_of_cell? _ _ (hHeld.2.2.1))).trans (hHeld.2.2.1), (hb4.cell (World.block_lt_of_cell? _ _ (hHeld.2.2.2.1))).trans (hHeld.2.2.2.1), (hb4.cell (World.block_lt_of_cell? _ _ (hHeld.2.2.2.2.1))).trans (hHeld.2.2.2.2.1), (hb4.cell (World.block_lt_of_cell? _ _ (hHeld.2.2.2.2.2.1))).trans (hHeld.2.2.2.2.2.1), (hb4.cell (World.block_lt_of_cell? _ _ (hHeld.2.2.2.2.2.2.1))).trans (hHeld.2.2.2.2.2.2.1), (hb4.cell (World.block_lt_of_cell? _ _ (hHeld.2.2.2.2.2.2.2.1))).trans (hHeld.2.2.2.2.2.2.2.1), (hb4.cell (World.block_lt_of_cell? _ _ (hHeld.2.2.2.2.2.2.2.2.1))).trans (hHeld.2.2.2.2.2.2.2.2.1), (hb4.cell (World.block_lt_of_cell? _ _ (hHeld.2.2.2.2.2.2.2.2.2.1))).trans (hHeld.2.2.2.2.2.2.2.2.2.1), (hb4.cell (World.block_lt_of_cell? _ _ (hHeld.2.2.2.2.2.2.2.2.2.2.1))).trans (hHeld.2.2.2.2.2.2.2.2.2.2.1), (hb4.cell (World.block_lt_of_cell? _ _ (hHeld.2.2.2.2.2.2.2.2.2.2.2.1))).trans (hHeld.2.2.2.2.2.2.2.2.2.2.2.1), (hb4.cell (World.block_lt_of_cell? _ _ (hHeld.2.2.2.2.2.2.2.2.2.2.2.2.1))).trans (hHeld.2.2.2.2.2.2.2.2.2.2.2.2.1), (hb4.cell (World.block_lt_of_cell? _ _ (hHeld.2.2.2.2.2.2.2.2.2.2.2.2.2.1))).trans (hHeld.2.2.2.2.2.2.2.2.2.2.2.2.2.1), (hb4.cell (World.block_lt_of_cell? _ _ (hHeld.2.2.2.2.2.2.2.2.2.2.2.2.2.2.1))).trans (hHeld.2.2.2.2.2.2.2.2.2.2.2.2.2.2.1), (hb4.cell (World.block_lt_of_cell? _ _ (hHeld.2.2.2.2.2.2.2.2.2.2.2.2.2.2.2.1))).trans (hHeld.2.2.2.2.2.2.2.2.2.2.2.2.2.2.2.1), (hb4.cell (World.block_lt_of_cell? _ _ (hHeld.2.2.2.2.2.2.2.2.2.2.2.2.2.2.2.2))).trans (hHeld.2.2.2.2.2.2.2.2.2.2.2.2.2.2.2.2)⟩
      have HF4 := HS'.out.but_new hg hb4
      have HB4 := Aside0.mk (below_step HB'.out hb4)
      have hz5 : w0_9.heap.size ≤ gx := Nat.le_of_eq hg.symm
      have hz6 : gx < w4.heap.size := blk_lt hbox
      refine hK.out _ _ hS4 (fun hHeld => ?_)
      clear hK K hS4
      refine norm_ (a' := ?_) ?_ ?_
      rotate_left
      · show Act.put _ (some 11) _ = _
        simp only [Act.put, List.setIfInBounds_toArray, List.set_cons_zero, List.set_cons_succ, i64_w, i32_w]
        rfl
      refine one_ (i := 4) (N := some 98) #[true, true, true, true, true, false, false, false, false, true, false, false, false] rfl rfl (one_of HT_.out (by kernel_rfl)) (by decide) (fun K hK => ?_)
      refine goes_ Try.func8 (by kernel_rfl) rfl #[.agg #[.int .i64 0, .int .i64 3, .int .i64 0, .int .i64 0, .bool true, .int .i64 0, .slice c6 1 c6', .slice c7 3 c7', .slice c8 0 c8'], .agg #[.int .i64 2, .int .i64 1, .int .i64 0, .int .i64 0, .int .i64 0, .int .i64 0, .int .i64 1, .slice yM 0 ym]] (by rfl) rfl rfl (by (try simp only [List.map_toArray, List.map_cons, List.map_nil]); first | done | rfl) ?_
      with_reducible refine (w_handle2 _ _ _ _ _ _ _ yM ym (HF4.here).2.2.2.2 (Kd.C_below HZ'.out hb4) HZL.out).mono ?_
      rintro e w5 ⟨x6, x6', x7, x7', x8, x8', u6, u6', rfl, hA, h9, hC, hb, hKK⟩
      refine ⟨_, rfl, ?_⟩
      have hS5 : w5.cell? ⟨w3.heap.size, 0, none⟩ = some (.int .i64 0) ∧ w5.cell? ⟨w3.heap.size, 1, none⟩ = some (.int .i64 3) ∧ w5.cell? ⟨w3.heap.size, 2, none⟩ = some (.int .i64 0) ∧ w5.cell? ⟨w3.heap.size, 3, none⟩ = some (.int .i64 0) ∧ w5.cell? ⟨w3.heap.size, 4, none⟩ = some (.bool true) ∧ w5.cell? ⟨w3.heap.size, 5, none⟩ = some (.int .i64 0) ∧ w5.cell? ⟨w3.heap.size, 6, none⟩ = some (.slice c6 1 c6') ∧ w5.cell? ⟨w3.heap.size, 7, none⟩ = some (.slice c7 3 c7') ∧ w5.cell? ⟨w3.heap.size, 8, none⟩ = some (.slice c8 0 c8') ∧ w5.cell? ad6 = some (.int .i64 2) ∧ w5.cell? ⟨ad6.block, ad6.off + 1, none⟩ = some (.int .i64 1) ∧ w5.cell? ⟨ad6.block, ad6.off + 2, none⟩ = some (.int .i64 0) ∧ w5.cell? ⟨ad6.block, ad6.off + 3, none⟩ = some (.int .i64 0) ∧ w5.cell? ⟨ad6.block, ad6.off + 4, none⟩ = some (.int .i64 0) ∧ w5.cell? ⟨ad6.block, ad6.off + 5, none⟩ = some (.int .i64 0) ∧ w5.cell? ⟨ad6.block, ad6.off + 6, none⟩ = some (.int .i64 1) ∧ w5.cell? ⟨ad6.block, ad6.off + 7, none⟩ = some (.slice yM 0 ym) := ⟨(hb.cell (World.block_lt_of_cell? _ _ (hHeld.1))).trans (hHeld.1), (hb.cell (World.block_lt_of_cell? _ _ (hHeld.2.1))).trans (hHeld.2.1), (hb.cell (World.block_lt_of_cell? _ _ (hHeld.2.2.1))).trans (hHeld.2.2.1), (hb.cell (World.block_lt_of_cell? _ _ (hHeld.2.2.2.1))).trans (hHeld.2.2.2.1), (hb.cell (World.block_lt_of_cell? _ _ (hHeld.2.2.2.2.1))).trans (hHeld.2.2.2.2.1), (hb.cell (World.block_lt_of_cell? _ _ (hHeld.2.2.2.2.2.1))).trans (hHeld.2.2.2.2.2.1), (hb.cell (World.block_lt_of_cell? _ _ (hHeld.2.2.2.2.2.2.1))).trans (hHeld.2.2.2.2.2.2.1), (hb.cell (World.block_lt_of_cell? _ _ (hHeld.2.2.2.2.2.2.2.1))).trans (hHeld.2.2.2.2.2.2.2.1), (hb.cell (World.block_lt_of_cell? _ _ (hHeld.2.2.2.2.2.2.2.2.1))).trans (hHeld.2.2.2.2.2.2.2.2.1), (hb.cell (World.block_lt_of_cell? _ _ (hHeld.2.2.2.2.2.2.2.2.2.1))).trans (hHeld.2.2.2.2.2.2.2.2.2.1), (hb.cell (World.block_lt_of_cell? _ _ (hHeld.2.2.2.2.2.2.2.2.2.2.1))).trans (hHeld.2.2.2.2.2.2.2.2.2.2.1), (hb.cell (World.block_lt_of_cell? _ _ (hHeld.2.2.2.2.2.2.2.2.2.2.2.1))).trans (hHeld.2.2.2.2.2.2.2.2.2.2.2.1), (hb.cell (World.block_lt_of_cell? _ _ (hHeld.2.2.2.2.2.2.2.2.2.2.2.2.1))).trans (hHeld.2.2.2.2.2.2.2.2.2.2.2.2.1), (hb.cell (World.block_lt_of_cell? _ _ (hHeld.2.2.2.2.2.2.2.2.2.2.2.2.2.1))).trans (hHeld.2.2.2.2.2.2.2.2.2.2.2.2.2.1), (hb.cell (World.block_lt_of_cell? _ _ (hHeld.2.2.2.2.2.2.2.2.2.2.2.2.2.2.1))).trans (hHeld.2.2.2.2.2.2.2.2.2.2.2.2.2.2.1), (hb.cell (World.block_lt_of_cell? _ _ (hHeld.2.2.2.2.2.2.2.2.2.2.2.2.2.2.2.1))).trans (hHeld.2.2.2.2.2.2.2.2.2.2.2.2.2.2.2.1), (hb.cell (World.block_lt_of_cell? _ _ (hHeld.2.2.2.2.2.2.2.2.2.2.2.2.2.2.2.2))).trans (hHeld.2.2.2.2.2.2.2.2.2.2.2.2.2.2.2.2)⟩
      have HF5 := (HF4.below hb).and (StaysBut.of hKK hz6)
      have HB5 := below_step HB4.out hb
      have hbox' := blk_below hbox hb
      clear hA h9 hC hKK hHeld
      refine hK.out _ _ hS5 (fun hHeld => ?_)
      clear hK K hS5
      refine norm_ (a' := ?_) ?_ ?_
      rotate_left
      · show Act.put _ (some 98) _ = _
        simp only [Act.put, List.setIfInBounds_toArray, List.set_cons_zero, List.set_cons_succ, i64_w, i32_w]
        rfl
      refine pure_ (i := 5) (N := some 93) (v := ?_) (a' := ?_) #[true, true, true, true, true, true, false, false, false, true, false, false, false] rfl rfl (any_of HT_.out (by kernel_rfl)) (fun _ _ _ h => h) (Or.inl ⟨by rfl, ?_⟩) ?_ ?_
      rotate_left
      · intro w'
        go_simp
        with_reducible rfl
      rotate_left
      · simp only [Act.put, List.setIfInBounds_toArray, List.set_cons_zero, List.set_cons_succ, i64_w, i32_w]
        rfl
      refine pure_ (i := 6) (N := some 99) (v := ?_) (a' := ?_) #[true, true, true, true, true, true, true, false, false, true, false, false, false] rfl rfl (any_of HT_.out (by kernel_rfl)) (fun _ _ _ h => h) (Or.inl ⟨by rfl, ?_⟩) ?_ ?_
      rotate_left
      · intro w'
        go_simp
        with_reducible rfl
      rotate_left
      · simp only [Act.put, List.setIfInBounds_toArray, List.set_cons_zero, List.set_cons_succ, i64_w, i32_w]
        rfl
      refine pure_ (i := 7) (N := some 100) (v := ?_) (a' := ?_) #[true, true, true, true, true, true, true, true, false, true, false, false, false] rfl rfl (any_of HT_.out (by kernel_rfl)) (fun _ _ _ h => h) (Or.inl ⟨by rfl, ?_⟩) ?_ ?_
      rotate_left
      · intro w'
        go_simp
        with_reducible rfl
      rotate_left
      · simp only [Act.put, List.setIfInBounds_toArray, List.set_cons_zero, List.set_cons_succ, i64_w, i32_w]
        rfl
      refine pure_ (i := 8) (N := some 101) (v := ?_) (a' := ?_) #[true, true, true, true, true, true, true, true, true, true, false, false, false] rfl rfl (any_of HT_.out (by kernel_rfl)) (fun _ _ _ h => h) (Or.inl ⟨by rfl, ?_⟩) ?_ ?_
      rotate_left
      · intro w'
        go_simp
        with_reducible rfl
      rotate_left
      · simp only [Act.put, List.setIfInBounds_toArray, List.set_cons_zero, List.set_cons_succ, i64_w, i32_w]
        rfl
      exact norm_ (by simp only [putAll, Act.put, List.setIfInBounds_toArray, List.set_cons_zero, List.set_cons_succ]) (hCont (x6, x6', x7, x7', x8, x8', u6, u6', gx) _ ⟨hHeld, hbox', HF5.mono (fun W' h => ⟨h.1.1, h.1.2.1, h.1.2.2.1, h.1.2.2.2.1, h.1.2.2.2.2, h.2.1, h.2.2⟩), hz5, HB5⟩)
  rintro ⟨x6, x6', x7, x7', x8, x8', u6, u6', gx⟩ w5 ⟨hHeld, hbox, HF5, hz5, HB5⟩
  clear HS' HB' HZ'
  replace hz5 : w0_9.heap.size ≤ gx := hz5
  replace hbox : w5.heap[gx]? = some (.cells #[.int .i64 0, .int .i64 0, .int .i64 0, .int .i64 0, .bool false, .int .i64 0, .slice none 0 0, .slice none 0 0, .slice none 0 0] 26 (0, 0)) := hbox
  replace HF5 : StaysBut w5 gx (fun W => W.heap[w2.heap.size]? = some (.cells #[.int .i64 1, .int .i64 3, .int .i64 0, .int .i64 0, .bool true, .int .i64 0, .slice b6 0 b6', .slice b7 3 b7', .slice b8 0 b8'] 26 (0, 0)) ∧ W.heap[gd]? = some (.cells #[.int .i64 1, .int .i64 3, .int .i64 0, .int .i64 0, .bool true, .int .i64 0, .slice d6 1 d6', .slice d7 3 d7', .slice d8 0 d8'] 26 (0, 0)) ∧ Arg W (⟨1, 3, 0, 0, true, 0, [], [0, 0, 0], [], []⟩ : Nod) b6 b7 b8 b6' b7' b8' ∧ Arg W (⟨1, 3, 0, 0, true, 0, [⟨#[97]⟩], [0, 0, 0], [], [⟨2, 1, 0, 0, 0, 0, 1, []⟩]⟩ : Nod) d6 d7 d8 d6' d7' d8' ∧ Arg W (⟨0, 3, 0, 0, true, 0, [⟨#[97]⟩], [1, 0, 0], [], [⟨1, 0, 1, 0, 0, 0, 0, [⟨#[97]⟩]⟩, ⟨1, 0, 2, 0, 0, 0, 0, [⟨#[97]⟩]⟩]⟩ : Nod) c6 c7 c8 c6' c7' c8' ∧ Arg W (⟨0, 3, 0, 0, true, 1, [⟨#[97]⟩], [1, 1, 0], [], [⟨1, 0, 1, 0, 0, 1, 0, [⟨#[97]⟩]⟩, ⟨1, 0, 2, 0, 0, 1, 0, [⟨#[97]⟩]⟩]⟩ : Nod) x6 x7 x8 x6' x7' x8' ∧ Kd.C k28 W u6 2 [(⟨1, 0, 1, 0, 0, 1, 0, [⟨#[97]⟩]⟩ : S28), ⟨1, 0, 2, 0, 0, 1, 0, [⟨#[97]⟩]⟩]) := HF5
  refine norm_ (a' := ?_) ?_ ?_
  rotate_left
  · simp only [putAll, Act.put, List.setIfInBounds_toArray, List.set_cons_zero, List.set_cons_succ]
    rfl
  refine one_ (i := 10) (N := none) #[true, true, true, true, true, true, true, true, true, true, true, false, false] rfl rfl (one_of HT_.out (by kernel_rfl)) (by decide) (fun K hK => ?_)
  have hs0 : w5.cell? ⟨gx, 0, none⟩ = some (.int .i64 0) := (blk_cell hbox 0).trans rfl
  have hf0 := blk_frozen hbox 0
  have hs1 : w5.cell? ⟨gx, 1, none⟩ = some (.int .i64 0) := (blk_cell hbox 1).trans rfl
  have hf1 := blk_frozen hbox 1
  have hs2 : w5.cell? ⟨gx, 2, none⟩ = some (.int .i64 0) := (blk_cell hbox 2).trans rfl
  have hf2 := blk_frozen hbox 2
  have hs3 : w5.cell? ⟨gx, 3, none⟩ = some (.int .i64 0) := (blk_cell hbox 3).trans rfl
  have hf3 := blk_frozen hbox 3
  have hs4 : w5.cell? ⟨gx, 4, none⟩ = some (.bool false) := (blk_cell hbox 4).trans rfl
  have hf4 := blk_frozen hbox 4
  have hs5 : w5.cell? ⟨gx, 5, none⟩ = some (.int .i64 0) := (blk_cell hbox 5).trans rfl
  have hf5 := blk_frozen hbox 5
  have hs6 : w5.cell? ⟨gx, 6, none⟩ = some (.slice none 0 0) := (blk_cell hbox 6).trans rfl
  have hf6 := blk_frozen hbox 6
  have hs7 : w5.cell? ⟨gx, 7, none⟩ = some (.slice none 0 0) := (blk_cell hbox 7).trans rfl
  have hf7 := blk_frozen hbox 7
  have hs8 : w5.cell? ⟨gx, 8, none⟩ = some (.slice none 0 0) := (blk_cell hbox 8).trans rfl
  have hf8 := blk_frozen hbox 8
  refine skip_ (w1 := ?_) (by rfl) rfl ?_ ?_
  rotate_left
  · go_simp
    rfl
  have hP := put9 hbox (.int .i64 0) (.int .i64 3) (.int .i64 0) (.int .i64 0) (.bool true) (.int .i64 1) (.slice x6 1 x6') (.slice x7 3 x7') (.slice x8 0 x8')
  refine hK.out _ _ ⟨(World.cell?_of_block (w := w5) (hP.2 _ (by show w3.heap.size ≠ gx; omega))).trans (hHeld.1), (World.cell?_of_block (w := w5) (hP.2 _ (by show w3.heap.size ≠ gx; omega))).trans (hHeld.2.1), (World.cell?_of_block (w := w5) (hP.2 _ (by show w3.heap.size ≠ gx; omega))).trans (hHeld.2.2.1), (World.cell?_of_block (w := w5) (hP.2 _ (by show w3.heap.size ≠ gx; omega))).trans (hHeld.2.2.2.1), (World.cell?_of_block (w := w5) (hP.2 _ (by show w3.heap.size ≠ gx; omega))).trans (hHeld.2.2.2.2.1), (World.cell?_of_block (w := w5) (hP.2 _ (by show w3.heap.size ≠ gx; omega))).trans (hHeld.2.2.2.2.2.1), (World.cell?_of_block (w := w5) (hP.2 _ (by show w3.heap.size ≠ gx; omega))).trans (hHeld.2.2.2.2.2.2.1), (World.cell?_of_block (w := w5) (hP.2 _ (by show w3.heap.size ≠ gx; omega))).trans (hHeld.2.2.2.2.2.2.2.1), (World.cell?_of_block (w := w5) (hP.2 _ (by show w3.heap.size ≠ gx; omega))).trans (hHeld.2.2.2.2.2.2.2.2.1), (World.cell?_of_block (w := w5) (hP.2 _ (by show ad6.block ≠ gx; omega))).trans (hHeld.2.2.2.2.2.2.2.2.2.1), (World.cell?_of_block (w := w5) (hP.2 _ (by show ad6.block ≠ gx; omega))).trans (hHeld.2.2.2.2.2.2.2.2.2.2.1), (World.cell?_of_block (w := w5) (hP.2 _ (by show ad6.block ≠ gx; omega))).trans (hHeld.2.2.2.2.2.2.2.2.2.2.2.1), (World.cell?_of_block (w := w5) (hP.2 _ (by show ad6.block ≠ gx; omega))).trans (hHeld.2.2.2.2.2.2.2.2.2.2.2.2.1), (World.cell?_of_block (w := w5) (hP.2 _ (by show ad6.block ≠ gx; omega))).trans (hHeld.2.2.2.2.2.2.2.2.2.2.2.2.2.1), (World.cell?_of_block (w := w5) (hP.2 _ (by show ad6.block ≠ gx; omega))).trans (hHeld.2.2.2.2.2.2.2.2.2.2.2.2.2.2.1), (World.cell?_of_block (w := w5) (hP.2 _ (by show ad6.block ≠ gx; omega))).trans (hHeld.2.2.2.2.2.2.2.2.2.2.2.2.2.2.2.1), (World.cell?_of_block (w := w5) (hP.2 _ (by show ad6.block ≠ gx; omega))).trans (hHeld.2.2.2.2.2.2.2.2.2.2.2.2.2.2.2.2)⟩ (fun _ => ?_)
  clear hK K
  have HS := Aside0.mk (HF5.put (W1 := (((((((((w5.setCell ⟨gx, 0, none⟩ (.int .i64 0)).setCell ⟨gx, 1, none⟩ (.int .i64 3)).setCell ⟨gx, 2, none⟩ (.int .i64 0)).setCell ⟨gx, 3, none⟩ (.int .i64 0)).setCell ⟨gx, 4, none⟩ (.bool true)).setCell ⟨gx, 5, none⟩ (.int .i64 1)).setCell ⟨gx, 6, none⟩ (.slice x6 1 x6')).setCell ⟨gx, 7, none⟩ (.slice x7 3 x7')).setCell ⟨gx, 8, none⟩ (.slice x8 0 x8'))) (by simp [World.setCell]) hP.1 hP.2)
  have HB := Aside0.mk (put9_below HB5 (g := gx) (by have := HB0.out; omega) (.int .i64 0) (.int .i64 3) (.int .i64 0) (.int .i64 0) (.bool true) (.int .i64 1) (.slice x6 1 x6') (.slice x7 3 x7') (.slice x8 0 x8'))
  clear hP HF5 HB5 hbox hHeld hz5 hgin' had' hs0 hf0 hs1 hf1 hs2 hf2 hs3 hf3 hs4 hf4 hs5 hf5 hs6 hf6 hs7 hf7 hs8 hf8
  generalize (((((((((w5.setCell ⟨gx, 0, none⟩ (.int .i64 0)).setCell ⟨gx, 1, none⟩ (.int .i64 3)).setCell ⟨gx, 2, none⟩ (.int .i64 0)).setCell ⟨gx, 3, none⟩ (.int .i64 0)).setCell ⟨gx, 4, none⟩ (.bool true)).setCell ⟨gx, 5, none⟩ (.int .i64 1)).setCell ⟨gx, 6, none⟩ (.slice x6 1 x6')).setCell ⟨gx, 7, none⟩ (.slice x7 3 x7')).setCell ⟨gx, 8, none⟩ (.slice x8 0 x8')) = we at HS HB ⊢
  refine pure_ (i := 11) (N := some 12) (v := ?_) (a' := ?_) #[true, true, true, true, true, true, true, true, true, true, true, true, false] rfl rfl (any_of HT_.out (by kernel_rfl)) (fun _ _ _ h => h) (Or.inl ⟨by rfl, ?_⟩) ?_ ?_
  rotate_left
  · intro w'
    go_simp
    with_reducible rfl
  rotate_left
  · simp only [Act.put, List.setIfInBounds_toArray, List.set_cons_zero, List.set_cons_succ, i64_w, i32_w]
    rfl
  refine pure_ (i := 12) (N := some 13) (v := ?_) (a' := ?_) #[true, true, true, true, true, true, true, true, true, true, true, true, true] rfl rfl (any_of HT_.out (by kernel_rfl)) (fun _ _ _ h => h) (Or.inl ⟨by rfl, ?_⟩) ?_ ?_
  rotate_left
  · intro w'
    go_simp
    with_reducible rfl
  rotate_left
  · simp only [Act.put, List.setIfInBounds_toArray, List.set_cons_zero, List.set_cons_succ, i64_w, i32_w]
    rfl
  refine done_ (done_of HT_.out (by kernel_rfl)) ?_
  clear HT_ HW_
  clear HZL HB0
  have q0 : we.cell? ⟨gd, 0, none⟩ = some (.int .i64 1) := blk_cell HS.out.here.2.2.1 0
  have q1 : we.cell? ⟨gd, 1, none⟩ = some (.int .i64 3) := blk_cell HS.out.here.2.2.1 1
  have q2 : we.cell? ⟨gd, 2, none⟩ = some (.int .i64 0) := blk_cell HS.out.here.2.2.1 2
  have q3 : we.cell? ⟨gd, 3, none⟩ = some (.int .i64 0) := blk_cell HS.out.here.2.2.1 3
  have q4 : we.cell? ⟨gd, 4, none⟩ = some (.bool true) := blk_cell HS.out.here.2.2.1 4
  have q5 : we.cell? ⟨gd, 5, none⟩ = some (.int .i64 0) := blk_cell HS.out.here.2.2.1 5
  have q6 : we.cell? ⟨gd, 6, none⟩ = some (.slice d6 1 d6') := blk_cell HS.out.here.2.2.1 6
  have q7 : we.cell? ⟨gd, 7, none⟩ = some (.slice d7 3 d7') := blk_cell HS.out.here.2.2.1 7
  have q8 : we.cell? ⟨gd, 8, none⟩ = some (.slice d8 0 d8') := blk_cell HS.out.here.2.2.1 8
  go_wp2_with (fail)
  go_at_call 12
  with_reducible refine (w_timeout _ _ _ _ _ _ _ HS.out.here.2.2.2.2.1).mono ?_
  rintro e w7 ⟨y6, y6', y7, y7', y8, y8', o6, o6', rfl, hA, h9, hC, hb, hK⟩
  have HS7 := Aside0.mk (show Stays (w7.alloc (.cells #[.int .i64 1, .int .i64 3, .int .i64 1, .int .i64 0, .bool false, .int .i64 0, .slice y6 1 y6', .slice y7 3 y7', .slice y8 1 y8'] 26)) (fun W => W.heap[gx]? = some (.cells #[.int .i64 0, .int .i64 3, .int .i64 0, .int .i64 0, .bool true, .int .i64 1, .slice x6 1 x6', .slice x7 3 x7', .slice x8 0 x8'] 26 (0, 0)) ∧ W.heap[w2.heap.size]? = some (.cells #[.int .i64 1, .int .i64 3, .int .i64 0, .int .i64 0, .bool true, .int .i64 0, .slice b6 0 b6', .slice b7 3 b7', .slice b8 0 b8'] 26 (0, 0)) ∧ W.heap[w7.heap.size]? = some (.cells #[.int .i64 1, .int .i64 3, .int .i64 1, .int .i64 0, .bool false, .int .i64 0, .slice y6 1 y6', .slice y7 3 y7', .slice y8 1 y8'] 26 (0, 0)) ∧ Arg W (⟨1, 3, 0, 0, true, 0, [], [0, 0, 0], [], []⟩ : Nod) b6 b7 b8 b6' b7' b8' ∧ Arg W (⟨0, 3, 0, 0, true, 1, [⟨#[97]⟩], [1, 1, 0], [], [⟨1, 0, 1, 0, 0, 1, 0, [⟨#[97]⟩]⟩, ⟨1, 0, 2, 0, 0, 1, 0, [⟨#[97]⟩]⟩]⟩ : Nod) x6 x7 x8 x6' x7' x8' ∧ Kd.C k28 W u6 2 [(⟨1, 0, 1, 0, 0, 1, 0, [⟨#[97]⟩]⟩ : S28), ⟨1, 0, 2, 0, 0, 1, 0, [⟨#[97]⟩]⟩]) from (((HS.out.below hb).alloc (.cells #[.int .i64 1, .int .i64 3, .int .i64 1, .int .i64 0, .bool false, .int .i64 0, .slice y6 1 y6', .slice y7 3 y7', .slice y8 1 y8'] 26)).and (Stays.new w7 (.cells #[.int .i64 1, .int .i64 3, .int .i64 1, .int .i64 0, .bool false, .int .i64 0, .slice y6 1 y6', .slice y7 3 y7', .slice y8 1 y8'] 26))).mono (fun W' h => ⟨h.1.1, h.1.2.1, h.2, h.1.2.2.2.1, h.1.2.2.2.2.2.2.1, h.1.2.2.2.2.2.2.2⟩))
  have HB7 := Aside0.mk (below_alloc (below_step HB.out hb) (.cells #[.int .i64 1, .int .i64 3, .int .i64 1, .int .i64 0, .bool false, .int .i64 0, .slice y6 1 y6', .slice y7 3 y7', .slice y8 1 y8'] 26))
  clear HS HB hA h9 hC hb hK q0 q1 q2 q3 q4 q5 q6 q7 q8
  have q0 : (w7.alloc (.cells #[.int .i64 1, .int .i64 3, .int .i64 1, .int .i64 0, .bool false, .int .i64 0, .slice y6 1 y6', .slice y7 3 y7', .slice y8 1 y8'] 26)).cell? ⟨w2.heap.size, 0, none⟩ = some (.int .i64 1) := blk_cell HS7.out.here.2.1 0
  have q1 : (w7.alloc (.cells #[.int .i64 1, .int .i64 3, .int .i64 1, .int .i64 0, .bool false, .int .i64 0, .slice y6 1 y6', .slice y7 3 y7', .slice y8 1 y8'] 26)).cell? ⟨w2.heap.size, 1, none⟩ = some (.int .i64 3) := blk_cell HS7.out.here.2.1 1
  have q2 : (w7.alloc (.cells #[.int .i64 1, .int .i64 3, .int .i64 1, .int .i64 0, .bool false, .int .i64 0, .slice y6 1 y6', .slice y7 3 y7', .slice y8 1 y8'] 26)).cell? ⟨w2.heap.size, 2, none⟩ = some (.int .i64 0) := blk_cell HS7.out.here.2.1 2
  have q3 : (w7.alloc (.cells #[.int .i64 1, .int .i64 3, .int .i64 1, .int .i64 0, .bool false, .int .i64 0, .slice y6 1 y6', .slice y7 3 y7', .slice y8 1 y8'] 26)).cell? ⟨w2.heap.size, 3, none⟩ = some (.int .i64 0) := blk_cell HS7.out.here.2.1 3
  have q4 : (w7.alloc (.cells #[.int .i64 1, .int .i64 3, .int .i64 1, .int .i64 0, .bool false, .int .i64 0, .slice y6 1 y6', .slice y7 3 y7', .slice y8 1 y8'] 26)).cell? ⟨w2.heap.size, 4, none⟩ = some (.bool true) := blk_cell HS7.out.here.2.1 4
  have q5 : (w7.alloc (.cells #[.int .i64 1, .int .i64 3, .int .i64 1, .int .i64 0, .bool false, .int .i64 0, .slice y6 1 y6', .slice y7 3 y7', .slice y8 1 y8'] 26)).cell? ⟨w2.heap.size, 5, none⟩ = some (.int .i64 0) := blk_cell HS7.out.here.2.1 5
  have q6 : (w7.alloc (.cells #[.int .i64 1, .int .i64 3, .int .i64 1, .int .i64 0, .bool false, .int .i64 0, .slice y6 1 y6', .slice y7 3 y7', .slice y8 1 y8'] 26)).cell? ⟨w2.heap.size, 6, none⟩ = some (.slice b6 0 b6') := blk_cell HS7.out.here.2.1 6
  have q7 : (w7.alloc (.cells #[.int .i64 1, .int .i64 3, .int .i64 1, .int .i64 0, .bool false, .int .i64 0, .slice y6 1 y6', .slice y7 3 y7', .slice y8 1 y8'] 26)).cell? ⟨w2.heap.size, 7, none⟩ = some (.slice b7 3 b7') := blk_cell HS7.out.here.2.1 7
  have q8 : (w7.alloc (.cells #[.int .i64 1, .int .i64 3, .int .i64 1, .int .i64 0, .bool false, .int .i64 0, .slice y6 1 y6', .slice y7 3 y7', .slice y8 1 y8'] 26)).cell? ⟨w2.heap.size, 8, none⟩ = some (.slice b8 0 b8') := blk_cell HS7.out.here.2.1 8
  go_wp2_with (fail)
  go_at_call 13
  with_reducible refine (w_ask2 _ _ _ _ _ _ _ HS7.out.here.2.2.2.1).mono ?_
  rintro e w8 ⟨r6, r6', r7, r7', r8, r8', v6, v6', rfl, hb⟩
  have HS8 := Aside0.mk ((HS7.out.below hb).alloc (.cells #[.int .i64 0, .int .i64 0, .int .i64 0, .int .i64 0, .bool false, .int .i64 0, .slice r6 0 r6', .slice r7 0 r7', .slice r8 0 r8'] 26))
  have HB8 := Aside0.mk (below_alloc (below_step HB7.out hb) (.cells #[.int .i64 0, .int .i64 0, .int .i64 0, .int .i64 0, .bool false, .int .i64 0, .slice r6 0 r6', .slice r7 0 r7', .slice r8 0 r8'] 26))
  clear HS7 HB7 hb q0 q1 q2 q3 q4 q5 q6 q7 q8
  have q0 : (w8.alloc (.cells #[.int .i64 0, .int .i64 0, .int .i64 0, .int .i64 0, .bool false, .int .i64 0, .slice r6 0 r6', .slice r7 0 r7', .slice r8 0 r8'] 26)).cell? ⟨gx, 0, none⟩ = some (.int .i64 0) := blk_cell HS8.out.here.1 0
  have q1 : (w8.alloc (.cells #[.int .i64 0, .int .i64 0, .int .i64 0, .int .i64 0, .bool false, .int .i64 0, .slice r6 0 r6', .slice r7 0 r7', .slice r8 0 r8'] 26)).cell? ⟨gx, 1, none⟩ = some (.int .i64 3) := blk_cell HS8.out.here.1 1
  have q2 : (w8.alloc (.cells #[.int .i64 0, .int .i64 0, .int .i64 0, .int .i64 0, .bool false, .int .i64 0, .slice r6 0 r6', .slice r7 0 r7', .slice r8 0 r8'] 26)).cell? ⟨gx, 2, none⟩ = some (.int .i64 0) := blk_cell HS8.out.here.1 2
  have q3 : (w8.alloc (.cells #[.int .i64 0, .int .i64 0, .int .i64 0, .int .i64 0, .bool false, .int .i64 0, .slice r6 0 r6', .slice r7 0 r7', .slice r8 0 r8'] 26)).cell? ⟨gx, 3, none⟩ = some (.int .i64 0) := blk_cell HS8.out.here.1 3
  have q4 : (w8.alloc (.cells #[.int .i64 0, .int .i64 0, .int .i64 0, .int .i64 0, .bool false, .int .i64 0, .slice r6 0 r6', .slice r7 0 r7', .slice r8 0 r8'] 26)).cell? ⟨gx, 4, none⟩ = some (.bool true) := blk_cell HS8.out.here.1 4
  have q5 : (w8.alloc (.cells #[.int .i64 0, .int .i64 0, .int .i64 0, .int .i64 0, .bool false, .int .i64 0, .slice r6 0 r6', .slice r7 0 r7', .slice r8 0 r8'] 26)).cell? ⟨gx, 5, none⟩ = some (.int .i64 1) := blk_cell HS8.out.here.1 5
  have q6 : (w8.alloc (.cells #[.int .i64 0, .int .i64 0, .int .i64 0, .int .i64 0, .bool false, .int .i64 0, .slice r6 0 r6', .slice r7 0 r7', .slice r8 0 r8'] 26)).cell? ⟨gx, 6, none⟩ = some (.slice x6 1 x6') := blk_cell HS8.out.here.1 6
  have q7 : (w8.alloc (.cells #[.int .i64 0, .int .i64 0, .int .i64 0, .int .i64 0, .bool false, .int .i64 0, .slice r6 0 r6', .slice r7 0 r7', .slice r8 0 r8'] 26)).cell? ⟨gx, 7, none⟩ = some (.slice x7 3 x7') := blk_cell HS8.out.here.1 7
  have q8 : (w8.alloc (.cells #[.int .i64 0, .int .i64 0, .int .i64 0, .int .i64 0, .bool false, .int .i64 0, .slice r6 0 r6', .slice r7 0 r7', .slice r8 0 r8'] 26)).cell? ⟨gx, 8, none⟩ = some (.slice x8 0 x8') := blk_cell HS8.out.here.1 8
  have y0 : (w8.alloc (.cells #[.int .i64 0, .int .i64 0, .int .i64 0, .int .i64 0, .bool false, .int .i64 0, .slice r6 0 r6', .slice r7 0 r7', .slice r8 0 r8'] 26)).cell? ⟨w7.heap.size, 0, none⟩ = some (.int .i64 1) := blk_cell HS8.out.here.2.2.1 0
  have y1 : (w8.alloc (.cells #[.int .i64 0, .int .i64 0, .int .i64 0, .int .i64 0, .bool false, .int .i64 0, .slice r6 0 r6', .slice r7 0 r7', .slice r8 0 r8'] 26)).cell? ⟨w7.heap.size, 1, none⟩ = some (.int .i64 3) := blk_cell HS8.out.here.2.2.1 1
  have y2 : (w8.alloc (.cells #[.int .i64 0, .int .i64 0, .int .i64 0, .int .i64 0, .bool false, .int .i64 0, .slice r6 0 r6', .slice r7 0 r7', .slice r8 0 r8'] 26)).cell? ⟨w7.heap.size, 2, none⟩ = some (.int .i64 1) := blk_cell HS8.out.here.2.2.1 2
  have y3 : (w8.alloc (.cells #[.int .i64 0, .int .i64 0, .int .i64 0, .int .i64 0, .bool false, .int .i64 0, .slice r6 0 r6', .slice r7 0 r7', .slice r8 0 r8'] 26)).cell? ⟨w7.heap.size, 3, none⟩ = some (.int .i64 0) := blk_cell HS8.out.here.2.2.1 3
  have y4 : (w8.alloc (.cells #[.int .i64 0, .int .i64 0, .int .i64 0, .int .i64 0, .bool false, .int .i64 0, .slice r6 0 r6', .slice r7 0 r7', .slice r8 0 r8'] 26)).cell? ⟨w7.heap.size, 4, none⟩ = some (.bool false) := blk_cell HS8.out.here.2.2.1 4
  have y5 : (w8.alloc (.cells #[.int .i64 0, .int .i64 0, .int .i64 0, .int .i64 0, .bool false, .int .i64 0, .slice r6 0 r6', .slice r7 0 r7', .slice r8 0 r8'] 26)).cell? ⟨w7.heap.size, 5, none⟩ = some (.int .i64 0) := blk_cell HS8.out.here.2.2.1 5
  have y6 : (w8.alloc (.cells #[.int .i64 0, .int .i64 0, .int .i64 0, .int .i64 0, .bool false, .int .i64 0, .slice r6 0 r6', .slice r7 0 r7', .slice r8 0 r8'] 26)).cell? ⟨w7.heap.size, 6, none⟩ = some (.slice y6 1 y6') := blk_cell HS8.out.here.2.2.1 6
  have y7 : (w8.alloc (.cells #[.int .i64 0, .int .i64 0, .int .i64 0, .int .i64 0, .bool false, .int .i64 0, .slice r6 0 r6', .slice r7 0 r7', .slice r8 0 r8'] 26)).cell? ⟨w7.heap.size, 7, none⟩ = some (.slice y7 3 y7') := blk_cell HS8.out.here.2.2.1 7
  have y8 : (w8.alloc (.cells #[.int .i64 0, .int .i64 0, .int .i64 0, .int .i64 0, .bool false, .int .i64 0, .slice r6 0 r6', .slice r7 0 r7', .slice r8 0 r8'] 26)).cell? ⟨w7.heap.size, 8, none⟩ = some (.slice y8 1 y8') := blk_cell HS8.out.here.2.2.1 8
  obtain ⟨ad8, zM, zm, ze, z0, z1, z2, z3, z4, z5, z6, z7, zl, zh⟩ := at_T28 HS8.out.here.2.2.2.2.2 1 (by decide) (by decide)
  cases ze
  simp only [show (1 : Int).toNat = 1 from rfl, Nat.zero_mul, Nat.one_mul] at z0 z1 z2 z3 z4 z5 z6 z7
  change _ = some (Value.int .i64 1) at z0
  change _ = some (Value.int .i64 0) at z1
  change _ = some (Value.int .i64 2) at z2
  change _ = some (Value.int .i64 0) at z3
  change _ = some (Value.int .i64 0) at z4
  change _ = some (Value.int .i64 1) at z5
  change _ = some (Value.int .i64 0) at z6
  change _ = some (Value.slice zM 1 zm) at z7
  change (w8.alloc (.cells #[.int .i64 0, .int .i64 0, .int .i64 0, .int .i64 0, .bool false, .int .i64 0, .slice r6 0 r6', .slice r7 0 r7', .slice r8 0 r8'] 26)).cell? ⟨ad8.block, ad8.off + 8 + 5, none⟩ = _ at z5
  clear z0 z1 z2 z3 z4 z6 z7 zh zl
  go_wp2_with ((go_at_call 15; with_reducible refine (w_is _ _ _ _ _ _ _ HS8.out.here.2.2.2.2.1).mono ?_; rintro e w9 ⟨rfl, hb⟩; have HB9 := Aside0.mk (below_step HB8.out hb); clear hb))
  go_ret
  exact ⟨rfl, HB9.out⟩
end Go.Proofs.Ytfpfpckocemmdaa.P
end
section
namespace Go.Proofs.Ytfpfpckocemmdaa.P
open Go.RowKit Go.Proofs.YtfpfpckocemmdaaW.PrintWords Go.Proofs.YtfpfpckocemmdaaW.PrintLast Go.Proofs.YtfpfpckocemmdaaW.PrintMore
attribute [local go_sem] max2_int min2_int max_two min_two max_three min_three max_four min_four
set_option linter.unusedVariables false
set_option linter.unusedSimpArgs false
set_option maxHeartbeats 8000000 in
set_option maxRecDepth 100000 in
theorem again_far (x : Nod) (m : S28) (A6 A7 A8 A : Option Addr) (c6 c7 c8 c : Nat) (w : World) (h6 : Kd.C Kd.string w A6 x.log.length x.log) (l6 : x.log.length ≤ c6) (h7 : Kd.C (Kd.int .i64) w A7 x.acks.length x.acks) (l7 : x.acks.length ≤ c7) (h8 : Kd.C k66 w A8 x.votes.length x.votes) (l8 : x.votes.length ≤ c8) (hm : Kd.C Kd.string w A m.f7.length m.f7) (lm : m.f7.length ≤ c) (K : Nat) (hfar : sextonlaw24_far.f K x.id x.n x.view x.last x.works x.commit x.log x.acks x.votes m.f0 m.f1 m.f2 m.f3 m.f4 m.f5 m.f6 m.f7 ⟨#[]⟩ = some true) :
    Calls Try.prog 6 #[.agg #[.int .i64 x.id, .int .i64 x.n, .int .i64 x.view, .int .i64 x.last, .bool x.works, .int .i64 x.commit, .slice A6 x.log.length c6, .slice A7 x.acks.length c7, .slice A8 x.votes.length c8], .agg #[.int .i64 m.f0, .int .i64 m.f1, .int .i64 m.f2, .int .i64 m.f3, .int .i64 m.f4, .int .i64 m.f5, .int .i64 m.f6, .slice A m.f7.length c]] w fun e w' => e = .returned (.bool true) ∧ Below w.heap.size w w' := by
  have hu26 := Try.underlying26
  have hu28 := Try.underlying28
  have H := Aside0.mk (fun (W : World) (hb : Below w.heap.size w W) => far_stays hfar (Kd.C_below h6 hb) l6 (Kd.C_below h7 hb) l7 (Kd.C_below h8 hb) l8 (Kd.C_below hm hb) lm)
  clear h6 l6 h7 l7 h8 l8 hm lm hfar
  go_enter Try.func6, Try.ntmps6
  go_wp2_with (go_at_call 7; refine (H.out _ (below_alloc (below_alloc (Below.refl w.heap.size w) _) _)).mono ?_; rintro e w1 ⟨rfl, hb⟩; have HB := Aside0.mk (below_step (below_alloc (below_alloc (Below.refl w.heap.size w) _) _) hb); clear hb)
  go_ret
  exact ⟨rfl, HB.out⟩
set_option maxHeartbeats 8000000 in
set_option maxRecDepth 100000 in
theorem again_walk (x a b u v : Nod) (e f g h : Int) (m : S28) (A6 A7 A8 A : Option Addr) (c6 c7 c8 c : Nat) (w : World) (harg : Arg w x A6 A7 A8 c6 c7 c8) (hm : Kd.C Kd.string w A m.f7.length m.f7) (lm : m.f7.length ≤ c) (K : Nat) (hfar : sextonlaw24_far.f K x.id x.n x.view x.last x.works x.commit x.log x.acks x.votes m.f0 m.f1 m.f2 m.f3 m.f4 m.f5 m.f6 m.f7 ⟨#[]⟩ = some false)
    (hR1 : restartOf x = (a, e)) (hR2 : restartOf a = (b, f)) (hH1 : handleOf x m = (u, g)) (hH2 : handleOf u m = (v, h)) (fa : Fits a) (fb : Fits b) (fu : Fits u) (fv : Fits v)
    (hs1 : sextonref24_Same.f K a.id a.n a.view a.last a.works a.commit a.log a.acks a.votes b.id b.n b.view b.last b.works b.commit b.log b.acks b.votes = some true) (hs2 : sextonref24_Same.f K u.id u.n u.view u.last u.works u.commit u.log u.acks u.votes v.id v.n v.view v.last v.works v.commit v.log v.acks v.votes = some true)
    (he : (e == 0) = false ∨ (e = 0 ∧ f = 0)) (hg : (g != 0) = true ∨ (g = 0 ∧ h = 0)) :
    Calls Try.prog 6 #[.agg #[.int .i64 x.id, .int .i64 x.n, .int .i64 x.view, .int .i64 x.last, .bool x.works, .int .i64 x.commit, .slice A6 x.log.length c6, .slice A7 x.acks.length c7, .slice A8 x.votes.length c8], .agg #[.int .i64 m.f0, .int .i64 m.f1, .int .i64 m.f2, .int .i64 m.f3, .int .i64 m.f4, .int .i64 m.f5, .int .i64 m.f6, .slice A m.f7.length c]] w fun e' w' => e' = .returned (.bool true) ∧ Below w.heap.size w w' := by
  have hu26 := Try.underlying26
  have hu28 := Try.underlying28
  have hu31 := Try.underlying31
  have HA := Aside0.mk harg
  have HM := Aside0.mk hm
  have LM := Aside0.mk lm
  have H0 := Aside0.mk hfar
  have H1 := Aside0.mk hR1
  have H2 := Aside0.mk hR2
  have H3 := Aside0.mk hH1
  have H4 := Aside0.mk hH2
  have HF := Aside0.mk (And.intro fa (And.intro fb (And.intro fu fv)))
  have HSM := Aside0.mk (And.intro hs1 hs2)
  clear harg hm lm hfar hR1 hR2 hH1 hH2 fa fb fu fv hs1 hs2
  go_enter Try.func6, Try.ntmps6
  have HS := Aside0.mk ((Stays.blk (W := ((w.alloc (.cells #[.int .i64 x.id, .int .i64 x.n, .int .i64 x.view, .int .i64 x.last, .bool x.works, .int .i64 x.commit, .slice A6 x.log.length c6, .slice A7 x.acks.length c7, .slice A8 x.votes.length c8] 26)).alloc (.cells #[.int .i64 m.f0, .int .i64 m.f1, .int .i64 m.f2, .int .i64 m.f3, .int .i64 m.f4, .int .i64 m.f5, .int .i64 m.f6, .slice A m.f7.length c] 28))) (blk_alloc (x_alloc_new w _) _)).and (Stays.blk (alloc2_new w _ _)))
  have HB := Aside0.mk (below_alloc (below_alloc (Below.refl w.heap.size w) (.cells #[.int .i64 x.id, .int .i64 x.n, .int .i64 x.view, .int .i64 x.last, .bool x.works, .int .i64 x.commit, .slice A6 x.log.length c6, .slice A7 x.acks.length c7, .slice A8 x.votes.length c8] 26)) (.cells #[.int .i64 m.f0, .int .i64 m.f1, .int .i64 m.f2, .int .i64 m.f3, .int .i64 m.f4, .int .i64 m.f5, .int .i64 m.f6, .slice A m.f7.length c] 28))
  replace HS := Aside0.mk (show Stays ((w.alloc (.cells #[.int .i64 x.id, .int .i64 x.n, .int .i64 x.view, .int .i64 x.last, .bool x.works, .int .i64 x.commit, .slice A6 x.log.length c6, .slice A7 x.acks.length c7, .slice A8 x.votes.length c8] 26)).alloc (.cells #[.int .i64 m.f0, .int .i64 m.f1, .int .i64 m.f2, .int .i64 m.f3, .int .i64 m.f4, .int .i64 m.f5, .int .i64 m.f6, .slice A m.f7.length c] 28)) (fun W => W.heap[w.heap.size]? = some (.cells #[.int .i64 x.id, .int .i64 x.n, .int .i64 x.view, .int .i64 x.last, .bool x.works, .int .i64 x.commit, .slice A6 x.log.length c6, .slice A7 x.acks.length c7, .slice A8 x.votes.length c8] 26 (0, 0)) ∧ W.heap[w.heap.size + 1]? = some (.cells #[.int .i64 m.f0, .int .i64 m.f1, .int .i64 m.f2, .int .i64 m.f3, .int .i64 m.f4, .int .i64 m.f5, .int .i64 m.f6, .slice A m.f7.length c] 28 (0, 0))) from HS.out)
  go_wp2_with (fail)
  generalize ((w.alloc (.cells #[.int .i64 x.id, .int .i64 x.n, .int .i64 x.view, .int .i64 x.last, .bool x.works, .int .i64 x.commit, .slice A6 x.log.length c6, .slice A7 x.acks.length c7, .slice A8 x.votes.length c8] 26)).alloc (.cells #[.int .i64 m.f0, .int .i64 m.f1, .int .i64 m.f2, .int .i64 m.f3, .int .i64 m.f4, .int .i64 m.f5, .int .i64 m.f6, .slice A m.f7.length c] 28)) = V0 at HS HB ⊢
  go_at_call 7
  refine (far_stays H0.out (HA.out.below HB.out).h6 HA.out.l6 (HA.out.below HB.out).h7 HA.out.l7 (HA.out.below HB.out).h8 HA.out.l8 (Kd.C_below HM.out HB.out) LM.out).mono ?_
  rintro e1 w1 ⟨rfl, hb⟩
  replace HS := Aside0.mk (show Stays w1 (fun W => W.heap[w.heap.size]? = some (.cells #[.int .i64 x.id, .int .i64 x.n, .int .i64 x.view, .int .i64 x.last, .bool x.works, .int .i64 x.commit, .slice A6 x.log.length c6, .slice A7 x.acks.length c7, .slice A8 x.votes.length c8] 26 (0, 0)) ∧ W.heap[w.heap.size + 1]? = some (.cells #[.int .i64 m.f0, .int .i64 m.f1, .int .i64 m.f2, .int .i64 m.f3, .int .i64 m.f4, .int .i64 m.f5, .int .i64 m.f6, .slice A m.f7.length c] 28 (0, 0))) from HS.out.below hb)
  replace HB := Aside0.mk (below_step HB.out hb)
  clear hb
  have p0 : w1.cell? ⟨w.heap.size, 0, none⟩ = some (.int .i64 x.id) := blk_cell HS.out.here.1 0
  have p1 : w1.cell? ⟨w.heap.size, 1, none⟩ = some (.int .i64 x.n) := blk_cell HS.out.here.1 1
  have p2 : w1.cell? ⟨w.heap.size, 2, none⟩ = some (.int .i64 x.view) := blk_cell HS.out.here.1 2
  have p3 : w1.cell? ⟨w.heap.size, 3, none⟩ = some (.int .i64 x.last) := blk_cell HS.out.here.1 3
  have p4 : w1.cell? ⟨w.heap.size, 4, none⟩ = some (.bool x.works) := blk_cell HS.out.here.1 4
  have p5 : w1.cell? ⟨w.heap.size, 5, none⟩ = some (.int .i64 x.commit) := blk_cell HS.out.here.1 5
  have p6 : w1.cell? ⟨w.heap.size, 6, none⟩ = some (.slice A6 x.log.length c6) := blk_cell HS.out.here.1 6
  have p7 : w1.cell? ⟨w.heap.size, 7, none⟩ = some (.slice A7 x.acks.length c7) := blk_cell HS.out.here.1 7
  have p8 : w1.cell? ⟨w.heap.size, 8, none⟩ = some (.slice A8 x.votes.length c8) := blk_cell HS.out.here.1 8
  go_wp2_with (fail)
  go_at_call 16
  refine (restart_stays H1.out HF.out.1 (HA.out.below HB.out)).mono ?_
  rintro e1 w2 ⟨a6, a6', a7, a7', a8, a8', rfl, hK, hb⟩
  clear p0 p1 p2 p3 p4 p5 p6 p7 p8
  replace HS := Aside0.mk (show Stays (w2.alloc (.cells #[.int .i64 a.id, .int .i64 a.n, .int .i64 a.view, .int .i64 a.last, .bool a.works, .int .i64 a.commit, .slice a6 a.log.length a6', .slice a7 a.acks.length a7', .slice a8 a.votes.length a8'] 26)) (fun W => W.heap[w.heap.size]? = some (.cells #[.int .i64 x.id, .int .i64 x.n, .int .i64 x.view, .int .i64 x.last, .bool x.works, .int .i64 x.commit, .slice A6 x.log.length c6, .slice A7 x.acks.length c7, .slice A8 x.votes.length c8] 26 (0, 0)) ∧ W.heap[w.heap.size + 1]? = some (.cells #[.int .i64 m.f0, .int .i64 m.f1, .int .i64 m.f2, .int .i64 m.f3, .int .i64 m.f4, .int .i64 m.f5, .int .i64 m.f6, .slice A m.f7.length c] 28 (0, 0)) ∧ W.heap[w2.heap.size]? = some (.cells #[.int .i64 a.id, .int .i64 a.n, .int .i64 a.view, .int .i64 a.last, .bool a.works, .int .i64 a.commit, .slice a6 a.log.length a6', .slice a7 a.acks.length a7', .slice a8 a.votes.length a8'] 26 (0, 0)) ∧ Arg W a a6 a7 a8 a6' a7' a8') from (((HS.out.below hb).alloc (.cells #[.int .i64 a.id, .int .i64 a.n, .int .i64 a.view, .int .i64 a.last, .bool a.works, .int .i64 a.commit, .slice a6 a.log.length a6', .slice a7 a.acks.length a7', .slice a8 a.votes.length a8'] 26)).and ((Stays.new w2 (.cells #[.int .i64 a.id, .int .i64 a.n, .int .i64 a.view, .int .i64 a.last, .bool a.works, .int .i64 a.commit, .slice a6 a.log.length a6', .slice a7 a.acks.length a7', .slice a8 a.votes.length a8'] 26)).and (hK.alloc (.cells #[.int .i64 a.id, .int .i64 a.n, .int .i64 a.view, .int .i64 a.last, .bool a.works, .int .i64 a.commit, .slice a6 a.log.length a6', .slice a7 a.acks.length a7', .slice a8 a.votes.length a8'] 26)))).mono (fun W' h => ⟨h.1.1, h.1.2, h.2.1, h.2.2⟩))
  replace HB := Aside0.mk (below_alloc (below_step HB.out hb) (.cells #[.int .i64 a.id, .int .i64 a.n, .int .i64 a.view, .int .i64 a.last, .bool a.works, .int .i64 a.commit, .slice a6 a.log.length a6', .slice a7 a.acks.length a7', .slice a8 a.votes.length a8'] 26))
  clear hK hb
  go_wp2_with (fail)
  generalize (w2.alloc (.cells #[.int .i64 a.id, .int .i64 a.n, .int .i64 a.view, .int .i64 a.last, .bool a.works, .int .i64 a.commit, .slice a6 a.log.length a6', .slice a7 a.acks.length a7', .slice a8 a.votes.length a8'] 26)) = V2 at HS HB ⊢
  go_at_call 16
  refine (restart_stays H2.out HF.out.2.1 HS.out.here.2.2.2).mono ?_
  rintro e1 w3 ⟨b6, b6', b7, b7', b8, b8', rfl, hK, hb⟩
  replace HS := Aside0.mk (show Stays (w3.alloc (.cells #[.int .i64 b.id, .int .i64 b.n, .int .i64 b.view, .int .i64 b.last, .bool b.works, .int .i64 b.commit, .slice b6 b.log.length b6', .slice b7 b.acks.length b7', .slice b8 b.votes.length b8'] 26)) (fun W => W.heap[w.heap.size]? = some (.cells #[.int .i64 x.id, .int .i64 x.n, .int .i64 x.view, .int .i64 x.last, .bool x.works, .int .i64 x.commit, .slice A6 x.log.length c6, .slice A7 x.acks.length c7, .slice A8 x.votes.length c8] 26 (0, 0)) ∧ W.heap[w.heap.size + 1]? = some (.cells #[.int .i64 m.f0, .int .i64 m.f1, .int .i64 m.f2, .int .i64 m.f3, .int .i64 m.f4, .int .i64 m.f5, .int .i64 m.f6, .slice A m.f7.length c] 28 (0, 0)) ∧ W.heap[w2.heap.size]? = some (.cells #[.int .i64 a.id, .int .i64 a.n, .int .i64 a.view, .int .i64 a.last, .bool a.works, .int .i64 a.commit, .slice a6 a.log.length a6', .slice a7 a.acks.length a7', .slice a8 a.votes.length a8'] 26 (0, 0)) ∧ Arg W a a6 a7 a8 a6' a7' a8' ∧ W.heap[w3.heap.size]? = some (.cells #[.int .i64 b.id, .int .i64 b.n, .int .i64 b.view, .int .i64 b.last, .bool b.works, .int .i64 b.commit, .slice b6 b.log.length b6', .slice b7 b.acks.length b7', .slice b8 b.votes.length b8'] 26 (0, 0)) ∧ Arg W b b6 b7 b8 b6' b7' b8') from (((HS.out.below hb).alloc (.cells #[.int .i64 b.id, .int .i64 b.n, .int .i64 b.view, .int .i64 b.last, .bool b.works, .int .i64 b.commit, .slice b6 b.log.length b6', .slice b7 b.acks.length b7', .slice b8 b.votes.length b8'] 26)).and ((Stays.new w3 (.cells #[.int .i64 b.id, .int .i64 b.n, .int .i64 b.view, .int .i64 b.last, .bool b.works, .int .i64 b.commit, .slice b6 b.log.length b6', .slice b7 b.acks.length b7', .slice b8 b.votes.length b8'] 26)).and (hK.alloc (.cells #[.int .i64 b.id, .int .i64 b.n, .int .i64 b.view, .int .i64 b.last, .bool b.works, .int .i64 b.commit, .slice b6 b.log.length b6', .slice b7 b.acks.length b7', .slice b8 b.votes.length b8'] 26)))).mono (fun W' h => ⟨h.1.1, h.1.2.1, h.1.2.2.1, h.1.2.2.2, h.2.1, h.2.2⟩))
  replace HB := Aside0.mk (below_alloc (below_step HB.out hb) (.cells #[.int .i64 b.id, .int .i64 b.n, .int .i64 b.view, .int .i64 b.last, .bool b.works, .int .i64 b.commit, .slice b6 b.log.length b6', .slice b7 b.acks.length b7', .slice b8 b.votes.length b8'] 26))
  clear hK hb
  have ka0 : (w3.alloc (.cells #[.int .i64 b.id, .int .i64 b.n, .int .i64 b.view, .int .i64 b.last, .bool b.works, .int .i64 b.commit, .slice b6 b.log.length b6', .slice b7 b.acks.length b7', .slice b8 b.votes.length b8'] 26)).cell? ⟨w2.heap.size, 0, none⟩ = some (.int .i64 a.id) := blk_cell HS.out.here.2.2.1 0
  have ka1 : (w3.alloc (.cells #[.int .i64 b.id, .int .i64 b.n, .int .i64 b.view, .int .i64 b.last, .bool b.works, .int .i64 b.commit, .slice b6 b.log.length b6', .slice b7 b.acks.length b7', .slice b8 b.votes.length b8'] 26)).cell? ⟨w2.heap.size, 1, none⟩ = some (.int .i64 a.n) := blk_cell HS.out.here.2.2.1 1
  have ka2 : (w3.alloc (.cells #[.int .i64 b.id, .int .i64 b.n, .int .i64 b.view, .int .i64 b.last, .bool b.works, .int .i64 b.commit, .slice b6 b.log.length b6', .slice b7 b.acks.length b7', .slice b8 b.votes.length b8'] 26)).cell? ⟨w2.heap.size, 2, none⟩ = some (.int .i64 a.view) := blk_cell HS.out.here.2.2.1 2
  have ka3 : (w3.alloc (.cells #[.int .i64 b.id, .int .i64 b.n, .int .i64 b.view, .int .i64 b.last, .bool b.works, .int .i64 b.commit, .slice b6 b.log.length b6', .slice b7 b.acks.length b7', .slice b8 b.votes.length b8'] 26)).cell? ⟨w2.heap.size, 3, none⟩ = some (.int .i64 a.last) := blk_cell HS.out.here.2.2.1 3
  have ka4 : (w3.alloc (.cells #[.int .i64 b.id, .int .i64 b.n, .int .i64 b.view, .int .i64 b.last, .bool b.works, .int .i64 b.commit, .slice b6 b.log.length b6', .slice b7 b.acks.length b7', .slice b8 b.votes.length b8'] 26)).cell? ⟨w2.heap.size, 4, none⟩ = some (.bool a.works) := blk_cell HS.out.here.2.2.1 4
  have ka5 : (w3.alloc (.cells #[.int .i64 b.id, .int .i64 b.n, .int .i64 b.view, .int .i64 b.last, .bool b.works, .int .i64 b.commit, .slice b6 b.log.length b6', .slice b7 b.acks.length b7', .slice b8 b.votes.length b8'] 26)).cell? ⟨w2.heap.size, 5, none⟩ = some (.int .i64 a.commit) := blk_cell HS.out.here.2.2.1 5
  have ka6 : (w3.alloc (.cells #[.int .i64 b.id, .int .i64 b.n, .int .i64 b.view, .int .i64 b.last, .bool b.works, .int .i64 b.commit, .slice b6 b.log.length b6', .slice b7 b.acks.length b7', .slice b8 b.votes.length b8'] 26)).cell? ⟨w2.heap.size, 6, none⟩ = some (.slice a6 a.log.length a6') := blk_cell HS.out.here.2.2.1 6
  have ka7 : (w3.alloc (.cells #[.int .i64 b.id, .int .i64 b.n, .int .i64 b.view, .int .i64 b.last, .bool b.works, .int .i64 b.commit, .slice b6 b.log.length b6', .slice b7 b.acks.length b7', .slice b8 b.votes.length b8'] 26)).cell? ⟨w2.heap.size, 7, none⟩ = some (.slice a7 a.acks.length a7') := blk_cell HS.out.here.2.2.1 7
  have ka8 : (w3.alloc (.cells #[.int .i64 b.id, .int .i64 b.n, .int .i64 b.view, .int .i64 b.last, .bool b.works, .int .i64 b.commit, .slice b6 b.log.length b6', .slice b7 b.acks.length b7', .slice b8 b.votes.length b8'] 26)).cell? ⟨w2.heap.size, 8, none⟩ = some (.slice a8 a.votes.length a8') := blk_cell HS.out.here.2.2.1 8
  have p0 : (w3.alloc (.cells #[.int .i64 b.id, .int .i64 b.n, .int .i64 b.view, .int .i64 b.last, .bool b.works, .int .i64 b.commit, .slice b6 b.log.length b6', .slice b7 b.acks.length b7', .slice b8 b.votes.length b8'] 26)).cell? ⟨w.heap.size, 0, none⟩ = some (.int .i64 x.id) := blk_cell HS.out.here.1 0
  have p1 : (w3.alloc (.cells #[.int .i64 b.id, .int .i64 b.n, .int .i64 b.view, .int .i64 b.last, .bool b.works, .int .i64 b.commit, .slice b6 b.log.length b6', .slice b7 b.acks.length b7', .slice b8 b.votes.length b8'] 26)).cell? ⟨w.heap.size, 1, none⟩ = some (.int .i64 x.n) := blk_cell HS.out.here.1 1
  have p2 : (w3.alloc (.cells #[.int .i64 b.id, .int .i64 b.n, .int .i64 b.view, .int .i64 b.last, .bool b.works, .int .i64 b.commit, .slice b6 b.log.length b6', .slice b7 b.acks.length b7', .slice b8 b.votes.length b8'] 26)).cell? ⟨w.heap.size, 2, none⟩ = some (.int .i64 x.view) := blk_cell HS.out.here.1 2
  have p3 : (w3.alloc (.cells #[.int .i64 b.id, .int .i64 b.n, .int .i64 b.view, .int .i64 b.last, .bool b.works, .int .i64 b.commit, .slice b6 b.log.length b6', .slice b7 b.acks.length b7', .slice b8 b.votes.length b8'] 26)).cell? ⟨w.heap.size, 3, none⟩ = some (.int .i64 x.last) := blk_cell HS.out.here.1 3
  have p4 : (w3.alloc (.cells #[.int .i64 b.id, .int .i64 b.n, .int .i64 b.view, .int .i64 b.last, .bool b.works, .int .i64 b.commit, .slice b6 b.log.length b6', .slice b7 b.acks.length b7', .slice b8 b.votes.length b8'] 26)).cell? ⟨w.heap.size, 4, none⟩ = some (.bool x.works) := blk_cell HS.out.here.1 4
  have p5 : (w3.alloc (.cells #[.int .i64 b.id, .int .i64 b.n, .int .i64 b.view, .int .i64 b.last, .bool b.works, .int .i64 b.commit, .slice b6 b.log.length b6', .slice b7 b.acks.length b7', .slice b8 b.votes.length b8'] 26)).cell? ⟨w.heap.size, 5, none⟩ = some (.int .i64 x.commit) := blk_cell HS.out.here.1 5
  have p6 : (w3.alloc (.cells #[.int .i64 b.id, .int .i64 b.n, .int .i64 b.view, .int .i64 b.last, .bool b.works, .int .i64 b.commit, .slice b6 b.log.length b6', .slice b7 b.acks.length b7', .slice b8 b.votes.length b8'] 26)).cell? ⟨w.heap.size, 6, none⟩ = some (.slice A6 x.log.length c6) := blk_cell HS.out.here.1 6
  have p7 : (w3.alloc (.cells #[.int .i64 b.id, .int .i64 b.n, .int .i64 b.view, .int .i64 b.last, .bool b.works, .int .i64 b.commit, .slice b6 b.log.length b6', .slice b7 b.acks.length b7', .slice b8 b.votes.length b8'] 26)).cell? ⟨w.heap.size, 7, none⟩ = some (.slice A7 x.acks.length c7) := blk_cell HS.out.here.1 7
  have p8 : (w3.alloc (.cells #[.int .i64 b.id, .int .i64 b.n, .int .i64 b.view, .int .i64 b.last, .bool b.works, .int .i64 b.commit, .slice b6 b.log.length b6', .slice b7 b.acks.length b7', .slice b8 b.votes.length b8'] 26)).cell? ⟨w.heap.size, 8, none⟩ = some (.slice A8 x.votes.length c8) := blk_cell HS.out.here.1 8
  have q0 : (w3.alloc (.cells #[.int .i64 b.id, .int .i64 b.n, .int .i64 b.view, .int .i64 b.last, .bool b.works, .int .i64 b.commit, .slice b6 b.log.length b6', .slice b7 b.acks.length b7', .slice b8 b.votes.length b8'] 26)).cell? ⟨w.heap.size + 1, 0, none⟩ = some (.int .i64 m.f0) := blk_cell HS.out.here.2.1 0
  have q1 : (w3.alloc (.cells #[.int .i64 b.id, .int .i64 b.n, .int .i64 b.view, .int .i64 b.last, .bool b.works, .int .i64 b.commit, .slice b6 b.log.length b6', .slice b7 b.acks.length b7', .slice b8 b.votes.length b8'] 26)).cell? ⟨w.heap.size + 1, 1, none⟩ = some (.int .i64 m.f1) := blk_cell HS.out.here.2.1 1
  have q2 : (w3.alloc (.cells #[.int .i64 b.id, .int .i64 b.n, .int .i64 b.view, .int .i64 b.last, .bool b.works, .int .i64 b.commit, .slice b6 b.log.length b6', .slice b7 b.acks.length b7', .slice b8 b.votes.length b8'] 26)).cell? ⟨w.heap.size + 1, 2, none⟩ = some (.int .i64 m.f2) := blk_cell HS.out.here.2.1 2
  have q3 : (w3.alloc (.cells #[.int .i64 b.id, .int .i64 b.n, .int .i64 b.view, .int .i64 b.last, .bool b.works, .int .i64 b.commit, .slice b6 b.log.length b6', .slice b7 b.acks.length b7', .slice b8 b.votes.length b8'] 26)).cell? ⟨w.heap.size + 1, 3, none⟩ = some (.int .i64 m.f3) := blk_cell HS.out.here.2.1 3
  have q4 : (w3.alloc (.cells #[.int .i64 b.id, .int .i64 b.n, .int .i64 b.view, .int .i64 b.last, .bool b.works, .int .i64 b.commit, .slice b6 b.log.length b6', .slice b7 b.acks.length b7', .slice b8 b.votes.length b8'] 26)).cell? ⟨w.heap.size + 1, 4, none⟩ = some (.int .i64 m.f4) := blk_cell HS.out.here.2.1 4
  have q5 : (w3.alloc (.cells #[.int .i64 b.id, .int .i64 b.n, .int .i64 b.view, .int .i64 b.last, .bool b.works, .int .i64 b.commit, .slice b6 b.log.length b6', .slice b7 b.acks.length b7', .slice b8 b.votes.length b8'] 26)).cell? ⟨w.heap.size + 1, 5, none⟩ = some (.int .i64 m.f5) := blk_cell HS.out.here.2.1 5
  have q6 : (w3.alloc (.cells #[.int .i64 b.id, .int .i64 b.n, .int .i64 b.view, .int .i64 b.last, .bool b.works, .int .i64 b.commit, .slice b6 b.log.length b6', .slice b7 b.acks.length b7', .slice b8 b.votes.length b8'] 26)).cell? ⟨w.heap.size + 1, 6, none⟩ = some (.int .i64 m.f6) := blk_cell HS.out.here.2.1 6
  have q7 : (w3.alloc (.cells #[.int .i64 b.id, .int .i64 b.n, .int .i64 b.view, .int .i64 b.last, .bool b.works, .int .i64 b.commit, .slice b6 b.log.length b6', .slice b7 b.acks.length b7', .slice b8 b.votes.length b8'] 26)).cell? ⟨w.heap.size + 1, 7, none⟩ = some (.slice A m.f7.length c) := blk_cell HS.out.here.2.1 7
  rcases he with he | ⟨rfl, rfl⟩
  · go_wp2_with (fail)
    replace HS := Aside0.mk (show Stays (w3.alloc (.cells #[.int .i64 b.id, .int .i64 b.n, .int .i64 b.view, .int .i64 b.last, .bool b.works, .int .i64 b.commit, .slice b6 b.log.length b6', .slice b7 b.acks.length b7', .slice b8 b.votes.length b8'] 26)) (fun W => W.heap[w.heap.size]? = some (.cells #[.int .i64 x.id, .int .i64 x.n, .int .i64 x.view, .int .i64 x.last, .bool x.works, .int .i64 x.commit, .slice A6 x.log.length c6, .slice A7 x.acks.length c7, .slice A8 x.votes.length c8] 26 (0, 0)) ∧ W.heap[w.heap.size + 1]? = some (.cells #[.int .i64 m.f0, .int .i64 m.f1, .int .i64 m.f2, .int .i64 m.f3, .int .i64 m.f4, .int .i64 m.f5, .int .i64 m.f6, .slice A m.f7.length c] 28 (0, 0))) from HS.out.mono (fun W' h => ⟨h.1, h.2.1⟩))
    clear ka0 p0 ka1 p1 ka2 p2 ka3 p3 ka4 p4 ka5 p5 ka6 p6 ka7 p7 ka8 p8 q0 q1 q2 q3 q4 q5 q6 q7 he
    generalize (w3.alloc (.cells #[.int .i64 b.id, .int .i64 b.n, .int .i64 b.view, .int .i64 b.last, .bool b.works, .int .i64 b.commit, .slice b6 b.log.length b6', .slice b7 b.acks.length b7', .slice b8 b.votes.length b8'] 26)) = V4 at HS HB ⊢
    go_at_call 8
    refine (handle_stays H3.out HF.out.2.2.1 (HA.out.below HB.out) (Kd.C_below HM.out HB.out) LM.out).mono ?_
    rintro e1 w5 ⟨u6, u6', u7, u7', u8, u8', t6, t6', rfl, h9, hK, hb⟩
    replace HS := Aside0.mk (show Stays (w5.alloc (.cells #[.int .i64 u.id, .int .i64 u.n, .int .i64 u.view, .int .i64 u.last, .bool u.works, .int .i64 u.commit, .slice u6 u.log.length u6', .slice u7 u.acks.length u7', .slice u8 u.votes.length u8'] 26)) (fun W => W.heap[w.heap.size]? = some (.cells #[.int .i64 x.id, .int .i64 x.n, .int .i64 x.view, .int .i64 x.last, .bool x.works, .int .i64 x.commit, .slice A6 x.log.length c6, .slice A7 x.acks.length c7, .slice A8 x.votes.length c8] 26 (0, 0)) ∧ W.heap[w.heap.size + 1]? = some (.cells #[.int .i64 m.f0, .int .i64 m.f1, .int .i64 m.f2, .int .i64 m.f3, .int .i64 m.f4, .int .i64 m.f5, .int .i64 m.f6, .slice A m.f7.length c] 28 (0, 0)) ∧ W.heap[w5.heap.size]? = some (.cells #[.int .i64 u.id, .int .i64 u.n, .int .i64 u.view, .int .i64 u.last, .bool u.works, .int .i64 u.commit, .slice u6 u.log.length u6', .slice u7 u.acks.length u7', .slice u8 u.votes.length u8'] 26 (0, 0)) ∧ Arg W u u6 u7 u8 u6' u7' u8' ∧ Kd.C k28 W t6 u.told.length u.told) from (((HS.out.below hb).alloc (.cells #[.int .i64 u.id, .int .i64 u.n, .int .i64 u.view, .int .i64 u.last, .bool u.works, .int .i64 u.commit, .slice u6 u.log.length u6', .slice u7 u.acks.length u7', .slice u8 u.votes.length u8'] 26)).and ((Stays.new w5 (.cells #[.int .i64 u.id, .int .i64 u.n, .int .i64 u.view, .int .i64 u.last, .bool u.works, .int .i64 u.commit, .slice u6 u.log.length u6', .slice u7 u.acks.length u7', .slice u8 u.votes.length u8'] 26)).and (hK.alloc (.cells #[.int .i64 u.id, .int .i64 u.n, .int .i64 u.view, .int .i64 u.last, .bool u.works, .int .i64 u.commit, .slice u6 u.log.length u6', .slice u7 u.acks.length u7', .slice u8 u.votes.length u8'] 26)))).mono (fun W' h => ⟨h.1.1, h.1.2, h.2.1, h.2.2.1, h.2.2.2⟩))
    replace HB := Aside0.mk (below_alloc (below_step HB.out hb) (.cells #[.int .i64 u.id, .int .i64 u.n, .int .i64 u.view, .int .i64 u.last, .bool u.works, .int .i64 u.commit, .slice u6 u.log.length u6', .slice u7 u.acks.length u7', .slice u8 u.votes.length u8'] 26))
    clear hK hb h9
    have q0 : (w5.alloc (.cells #[.int .i64 u.id, .int .i64 u.n, .int .i64 u.view, .int .i64 u.last, .bool u.works, .int .i64 u.commit, .slice u6 u.log.length u6', .slice u7 u.acks.length u7', .slice u8 u.votes.length u8'] 26)).cell? ⟨w.heap.size + 1, 0, none⟩ = some (.int .i64 m.f0) := blk_cell HS.out.here.2.1 0
    have q1 : (w5.alloc (.cells #[.int .i64 u.id, .int .i64 u.n, .int .i64 u.view, .int .i64 u.last, .bool u.works, .int .i64 u.commit, .slice u6 u.log.length u6', .slice u7 u.acks.length u7', .slice u8 u.votes.length u8'] 26)).cell? ⟨w.heap.size + 1, 1, none⟩ = some (.int .i64 m.f1) := blk_cell HS.out.here.2.1 1
    have q2 : (w5.alloc (.cells #[.int .i64 u.id, .int .i64 u.n, .int .i64 u.view, .int .i64 u.last, .bool u.works, .int .i64 u.commit, .slice u6 u.log.length u6', .slice u7 u.acks.length u7', .slice u8 u.votes.length u8'] 26)).cell? ⟨w.heap.size + 1, 2, none⟩ = some (.int .i64 m.f2) := blk_cell HS.out.here.2.1 2
    have q3 : (w5.alloc (.cells #[.int .i64 u.id, .int .i64 u.n, .int .i64 u.view, .int .i64 u.last, .bool u.works, .int .i64 u.commit, .slice u6 u.log.length u6', .slice u7 u.acks.length u7', .slice u8 u.votes.length u8'] 26)).cell? ⟨w.heap.size + 1, 3, none⟩ = some (.int .i64 m.f3) := blk_cell HS.out.here.2.1 3
    have q4 : (w5.alloc (.cells #[.int .i64 u.id, .int .i64 u.n, .int .i64 u.view, .int .i64 u.last, .bool u.works, .int .i64 u.commit, .slice u6 u.log.length u6', .slice u7 u.acks.length u7', .slice u8 u.votes.length u8'] 26)).cell? ⟨w.heap.size + 1, 4, none⟩ = some (.int .i64 m.f4) := blk_cell HS.out.here.2.1 4
    have q5 : (w5.alloc (.cells #[.int .i64 u.id, .int .i64 u.n, .int .i64 u.view, .int .i64 u.last, .bool u.works, .int .i64 u.commit, .slice u6 u.log.length u6', .slice u7 u.acks.length u7', .slice u8 u.votes.length u8'] 26)).cell? ⟨w.heap.size + 1, 5, none⟩ = some (.int .i64 m.f5) := blk_cell HS.out.here.2.1 5
    have q6 : (w5.alloc (.cells #[.int .i64 u.id, .int .i64 u.n, .int .i64 u.view, .int .i64 u.last, .bool u.works, .int .i64 u.commit, .slice u6 u.log.length u6', .slice u7 u.acks.length u7', .slice u8 u.votes.length u8'] 26)).cell? ⟨w.heap.size + 1, 6, none⟩ = some (.int .i64 m.f6) := blk_cell HS.out.here.2.1 6
    have q7 : (w5.alloc (.cells #[.int .i64 u.id, .int .i64 u.n, .int .i64 u.view, .int .i64 u.last, .bool u.works, .int .i64 u.commit, .slice u6 u.log.length u6', .slice u7 u.acks.length u7', .slice u8 u.votes.length u8'] 26)).cell? ⟨w.heap.size + 1, 7, none⟩ = some (.slice A m.f7.length c) := blk_cell HS.out.here.2.1 7
    go_wp2_with (fail)
    clear q0 q1 q2 q3 q4 q5 q6 q7
    generalize (w5.alloc (.cells #[.int .i64 u.id, .int .i64 u.n, .int .i64 u.view, .int .i64 u.last, .bool u.works, .int .i64 u.commit, .slice u6 u.log.length u6', .slice u7 u.acks.length u7', .slice u8 u.votes.length u8'] 26)) = V5 at HS HB ⊢
    go_at_call 8
    refine (handle_stays H4.out HF.out.2.2.2 HS.out.here.2.2.2.1 (Kd.C_below HM.out HB.out) LM.out).mono ?_
    rintro e1 w6 ⟨v6, v6', v7, v7', v8, v8', s6, s6', rfl, h9, hK, hb⟩
    replace HS := Aside0.mk (show Stays (w6.alloc (.cells #[.int .i64 v.id, .int .i64 v.n, .int .i64 v.view, .int .i64 v.last, .bool v.works, .int .i64 v.commit, .slice v6 v.log.length v6', .slice v7 v.acks.length v7', .slice v8 v.votes.length v8'] 26)) (fun W => W.heap[w.heap.size]? = some (.cells #[.int .i64 x.id, .int .i64 x.n, .int .i64 x.view, .int .i64 x.last, .bool x.works, .int .i64 x.commit, .slice A6 x.log.length c6, .slice A7 x.acks.length c7, .slice A8 x.votes.length c8] 26 (0, 0)) ∧ W.heap[w.heap.size + 1]? = some (.cells #[.int .i64 m.f0, .int .i64 m.f1, .int .i64 m.f2, .int .i64 m.f3, .int .i64 m.f4, .int .i64 m.f5, .int .i64 m.f6, .slice A m.f7.length c] 28 (0, 0)) ∧ W.heap[w5.heap.size]? = some (.cells #[.int .i64 u.id, .int .i64 u.n, .int .i64 u.view, .int .i64 u.last, .bool u.works, .int .i64 u.commit, .slice u6 u.log.length u6', .slice u7 u.acks.length u7', .slice u8 u.votes.length u8'] 26 (0, 0)) ∧ Arg W u u6 u7 u8 u6' u7' u8' ∧ Kd.C k28 W t6 u.told.length u.told ∧ W.heap[w6.heap.size]? = some (.cells #[.int .i64 v.id, .int .i64 v.n, .int .i64 v.view, .int .i64 v.last, .bool v.works, .int .i64 v.commit, .slice v6 v.log.length v6', .slice v7 v.acks.length v7', .slice v8 v.votes.length v8'] 26 (0, 0)) ∧ Arg W v v6 v7 v8 v6' v7' v8' ∧ Kd.C k28 W s6 v.told.length v.told) from (((HS.out.below hb).alloc (.cells #[.int .i64 v.id, .int .i64 v.n, .int .i64 v.view, .int .i64 v.last, .bool v.works, .int .i64 v.commit, .slice v6 v.log.length v6', .slice v7 v.acks.length v7', .slice v8 v.votes.length v8'] 26)).and ((Stays.new w6 (.cells #[.int .i64 v.id, .int .i64 v.n, .int .i64 v.view, .int .i64 v.last, .bool v.works, .int .i64 v.commit, .slice v6 v.log.length v6', .slice v7 v.acks.length v7', .slice v8 v.votes.length v8'] 26)).and (hK.alloc (.cells #[.int .i64 v.id, .int .i64 v.n, .int .i64 v.view, .int .i64 v.last, .bool v.works, .int .i64 v.commit, .slice v6 v.log.length v6', .slice v7 v.acks.length v7', .slice v8 v.votes.length v8'] 26)))).mono (fun W' h => ⟨h.1.1, h.1.2.1, h.1.2.2.1, h.1.2.2.2.1, h.1.2.2.2.2, h.2.1, h.2.2.1, h.2.2.2⟩))
    replace HB := Aside0.mk (below_alloc (below_step HB.out hb) (.cells #[.int .i64 v.id, .int .i64 v.n, .int .i64 v.view, .int .i64 v.last, .bool v.works, .int .i64 v.commit, .slice v6 v.log.length v6', .slice v7 v.acks.length v7', .slice v8 v.votes.length v8'] 26))
    clear hK hb h9
    rcases hg with hg | ⟨rfl, rfl⟩
    · go_wp2_with (go_at_call 9; refine (worked_calls _).mono ?_; rintro e1 w7 ⟨rfl, hb⟩; replace HB := Aside0.mk (below_step HB.out hb); clear hb)
      go_ret
      exact ⟨rfl, HB.out⟩
    · go_wp2_with (fail)
      go_at_call 9
      refine (worked_calls _).mono ?_
      rintro e1 w7 ⟨rfl, hb⟩
      replace HS := Aside0.mk (show Stays w7 (fun W => W.heap[w.heap.size]? = some (.cells #[.int .i64 x.id, .int .i64 x.n, .int .i64 x.view, .int .i64 x.last, .bool x.works, .int .i64 x.commit, .slice A6 x.log.length c6, .slice A7 x.acks.length c7, .slice A8 x.votes.length c8] 26 (0, 0)) ∧ W.heap[w.heap.size + 1]? = some (.cells #[.int .i64 m.f0, .int .i64 m.f1, .int .i64 m.f2, .int .i64 m.f3, .int .i64 m.f4, .int .i64 m.f5, .int .i64 m.f6, .slice A m.f7.length c] 28 (0, 0)) ∧ W.heap[w5.heap.size]? = some (.cells #[.int .i64 u.id, .int .i64 u.n, .int .i64 u.view, .int .i64 u.last, .bool u.works, .int .i64 u.commit, .slice u6 u.log.length u6', .slice u7 u.acks.length u7', .slice u8 u.votes.length u8'] 26 (0, 0)) ∧ Arg W u u6 u7 u8 u6' u7' u8' ∧ Kd.C k28 W t6 u.told.length u.told ∧ W.heap[w6.heap.size]? = some (.cells #[.int .i64 v.id, .int .i64 v.n, .int .i64 v.view, .int .i64 v.last, .bool v.works, .int .i64 v.commit, .slice v6 v.log.length v6', .slice v7 v.acks.length v7', .slice v8 v.votes.length v8'] 26 (0, 0)) ∧ Arg W v v6 v7 v8 v6' v7' v8' ∧ Kd.C k28 W s6 v.told.length v.told) from HS.out.below hb)
      replace HB := Aside0.mk (below_step HB.out hb)
      clear hb
      have ka0 : w7.cell? ⟨w5.heap.size, 0, none⟩ = some (.int .i64 u.id) := blk_cell HS.out.here.2.2.1 0
      have ka1 : w7.cell? ⟨w5.heap.size, 1, none⟩ = some (.int .i64 u.n) := blk_cell HS.out.here.2.2.1 1
      have ka2 : w7.cell? ⟨w5.heap.size, 2, none⟩ = some (.int .i64 u.view) := blk_cell HS.out.here.2.2.1 2
      have ka3 : w7.cell? ⟨w5.heap.size, 3, none⟩ = some (.int .i64 u.last) := blk_cell HS.out.here.2.2.1 3
      have ka4 : w7.cell? ⟨w5.heap.size, 4, none⟩ = some (.bool u.works) := blk_cell HS.out.here.2.2.1 4
      have ka5 : w7.cell? ⟨w5.heap.size, 5, none⟩ = some (.int .i64 u.commit) := blk_cell HS.out.here.2.2.1 5
      have ka6 : w7.cell? ⟨w5.heap.size, 6, none⟩ = some (.slice u6 u.log.length u6') := blk_cell HS.out.here.2.2.1 6
      have ka7 : w7.cell? ⟨w5.heap.size, 7, none⟩ = some (.slice u7 u.acks.length u7') := blk_cell HS.out.here.2.2.1 7
      have ka8 : w7.cell? ⟨w5.heap.size, 8, none⟩ = some (.slice u8 u.votes.length u8') := blk_cell HS.out.here.2.2.1 8
      have kb0 : w7.cell? ⟨w6.heap.size, 0, none⟩ = some (.int .i64 v.id) := blk_cell HS.out.here.2.2.2.2.2.1 0
      have kb1 : w7.cell? ⟨w6.heap.size, 1, none⟩ = some (.int .i64 v.n) := blk_cell HS.out.here.2.2.2.2.2.1 1
      have kb2 : w7.cell? ⟨w6.heap.size, 2, none⟩ = some (.int .i64 v.view) := blk_cell HS.out.here.2.2.2.2.2.1 2
      have kb3 : w7.cell? ⟨w6.heap.size, 3, none⟩ = some (.int .i64 v.last) := blk_cell HS.out.here.2.2.2.2.2.1 3
      have kb4 : w7.cell? ⟨w6.heap.size, 4, none⟩ = some (.bool v.works) := blk_cell HS.out.here.2.2.2.2.2.1 4
      have kb5 : w7.cell? ⟨w6.heap.size, 5, none⟩ = some (.int .i64 v.commit) := blk_cell HS.out.here.2.2.2.2.2.1 5
      have kb6 : w7.cell? ⟨w6.heap.size, 6, none⟩ = some (.slice v6 v.log.length v6') := blk_cell HS.out.here.2.2.2.2.2.1 6
      have kb7 : w7.cell? ⟨w6.heap.size, 7, none⟩ = some (.slice v7 v.acks.length v7') := blk_cell HS.out.here.2.2.2.2.2.1 7
      have kb8 : w7.cell? ⟨w6.heap.size, 8, none⟩ = some (.slice v8 v.votes.length v8') := blk_cell HS.out.here.2.2.2.2.2.1 8
      go_wp2_with (go_at_call 10; refine (same_stays HSM.out.2 HS.out.here.2.2.2.1 HS.out.here.2.2.2.2.2.2.1).mono ?_; rintro e1 w8 ⟨rfl, hb⟩; replace HB := Aside0.mk (below_step HB.out hb); clear hb)
      go_ret
      exact ⟨rfl, HB.out⟩
  · go_wp2_with (fail)
    go_at_call 10
    refine (same_stays HSM.out.1 HS.out.here.2.2.2.1 HS.out.here.2.2.2.2.2).mono ?_
    rintro e1 V4 ⟨rfl, hb⟩
    replace HS := Aside0.mk (show Stays V4 (fun W => W.heap[w.heap.size]? = some (.cells #[.int .i64 x.id, .int .i64 x.n, .int .i64 x.view, .int .i64 x.last, .bool x.works, .int .i64 x.commit, .slice A6 x.log.length c6, .slice A7 x.acks.length c7, .slice A8 x.votes.length c8] 26 (0, 0)) ∧ W.heap[w.heap.size + 1]? = some (.cells #[.int .i64 m.f0, .int .i64 m.f1, .int .i64 m.f2, .int .i64 m.f3, .int .i64 m.f4, .int .i64 m.f5, .int .i64 m.f6, .slice A m.f7.length c] 28 (0, 0)) ∧ W.heap[w2.heap.size]? = some (.cells #[.int .i64 a.id, .int .i64 a.n, .int .i64 a.view, .int .i64 a.last, .bool a.works, .int .i64 a.commit, .slice a6 a.log.length a6', .slice a7 a.acks.length a7', .slice a8 a.votes.length a8'] 26 (0, 0)) ∧ Arg W a a6 a7 a8 a6' a7' a8' ∧ W.heap[w3.heap.size]? = some (.cells #[.int .i64 b.id, .int .i64 b.n, .int .i64 b.view, .int .i64 b.last, .bool b.works, .int .i64 b.commit, .slice b6 b.log.length b6', .slice b7 b.acks.length b7', .slice b8 b.votes.length b8'] 26 (0, 0)) ∧ Arg W b b6 b7 b8 b6' b7' b8') from HS.out.below hb)
    replace HB := Aside0.mk (below_step HB.out hb)
    clear hb
    clear ka0 p0 ka1 p1 ka2 p2 ka3 p3 ka4 p4 ka5 p5 ka6 p6 ka7 p7 ka8 p8 q0 q1 q2 q3 q4 q5 q6 q7
    replace HS := Aside0.mk (show Stays V4 (fun W => W.heap[w.heap.size]? = some (.cells #[.int .i64 x.id, .int .i64 x.n, .int .i64 x.view, .int .i64 x.last, .bool x.works, .int .i64 x.commit, .slice A6 x.log.length c6, .slice A7 x.acks.length c7, .slice A8 x.votes.length c8] 26 (0, 0)) ∧ W.heap[w.heap.size + 1]? = some (.cells #[.int .i64 m.f0, .int .i64 m.f1, .int .i64 m.f2, .int .i64 m.f3, .int .i64 m.f4, .int .i64 m.f5, .int .i64 m.f6, .slice A m.f7.length c] 28 (0, 0))) from HS.out.mono (fun W' h => ⟨h.1, h.2.1⟩))
    have p0 : V4.cell? ⟨w.heap.size, 0, none⟩ = some (.int .i64 x.id) := blk_cell HS.out.here.1 0
    have p1 : V4.cell? ⟨w.heap.size, 1, none⟩ = some (.int .i64 x.n) := blk_cell HS.out.here.1 1
    have p2 : V4.cell? ⟨w.heap.size, 2, none⟩ = some (.int .i64 x.view) := blk_cell HS.out.here.1 2
    have p3 : V4.cell? ⟨w.heap.size, 3, none⟩ = some (.int .i64 x.last) := blk_cell HS.out.here.1 3
    have p4 : V4.cell? ⟨w.heap.size, 4, none⟩ = some (.bool x.works) := blk_cell HS.out.here.1 4
    have p5 : V4.cell? ⟨w.heap.size, 5, none⟩ = some (.int .i64 x.commit) := blk_cell HS.out.here.1 5
    have p6 : V4.cell? ⟨w.heap.size, 6, none⟩ = some (.slice A6 x.log.length c6) := blk_cell HS.out.here.1 6
    have p7 : V4.cell? ⟨w.heap.size, 7, none⟩ = some (.slice A7 x.acks.length c7) := blk_cell HS.out.here.1 7
    have p8 : V4.cell? ⟨w.heap.size, 8, none⟩ = some (.slice A8 x.votes.length c8) := blk_cell HS.out.here.1 8
    have q0 : V4.cell? ⟨w.heap.size + 1, 0, none⟩ = some (.int .i64 m.f0) := blk_cell HS.out.here.2 0
    have q1 : V4.cell? ⟨w.heap.size + 1, 1, none⟩ = some (.int .i64 m.f1) := blk_cell HS.out.here.2 1
    have q2 : V4.cell? ⟨w.heap.size + 1, 2, none⟩ = some (.int .i64 m.f2) := blk_cell HS.out.here.2 2
    have q3 : V4.cell? ⟨w.heap.size + 1, 3, none⟩ = some (.int .i64 m.f3) := blk_cell HS.out.here.2 3
    have q4 : V4.cell? ⟨w.heap.size + 1, 4, none⟩ = some (.int .i64 m.f4) := blk_cell HS.out.here.2 4
    have q5 : V4.cell? ⟨w.heap.size + 1, 5, none⟩ = some (.int .i64 m.f5) := blk_cell HS.out.here.2 5
    have q6 : V4.cell? ⟨w.heap.size + 1, 6, none⟩ = some (.int .i64 m.f6) := blk_cell HS.out.here.2 6
    have q7 : V4.cell? ⟨w.heap.size + 1, 7, none⟩ = some (.slice A m.f7.length c) := blk_cell HS.out.here.2 7
    go_wp2_with (fail)
    clear p0 p1 p2 p3 p4 p5 p6 p7 p8 q0 q1 q2 q3 q4 q5 q6 q7
    go_at_call 8
    refine (handle_stays H3.out HF.out.2.2.1 (HA.out.below HB.out) (Kd.C_below HM.out HB.out) LM.out).mono ?_
    rintro e1 w5 ⟨u6, u6', u7, u7', u8, u8', t6, t6', rfl, h9, hK, hb⟩
    replace HS := Aside0.mk (show Stays (w5.alloc (.cells #[.int .i64 u.id, .int .i64 u.n, .int .i64 u.view, .int .i64 u.last, .bool u.works, .int .i64 u.commit, .slice u6 u.log.length u6', .slice u7 u.acks.length u7', .slice u8 u.votes.length u8'] 26)) (fun W => W.heap[w.heap.size]? = some (.cells #[.int .i64 x.id, .int .i64 x.n, .int .i64 x.view, .int .i64 x.last, .bool x.works, .int .i64 x.commit, .slice A6 x.log.length c6, .slice A7 x.acks.length c7, .slice A8 x.votes.length c8] 26 (0, 0)) ∧ W.heap[w.heap.size + 1]? = some (.cells #[.int .i64 m.f0, .int .i64 m.f1, .int .i64 m.f2, .int .i64 m.f3, .int .i64 m.f4, .int .i64 m.f5, .int .i64 m.f6, .slice A m.f7.length c] 28 (0, 0)) ∧ W.heap[w5.heap.size]? = some (.cells #[.int .i64 u.id, .int .i64 u.n, .int .i64 u.view, .int .i64 u.last, .bool u.works, .int .i64 u.commit, .slice u6 u.log.length u6', .slice u7 u.acks.length u7', .slice u8 u.votes.length u8'] 26 (0, 0)) ∧ Arg W u u6 u7 u8 u6' u7' u8' ∧ Kd.C k28 W t6 u.told.length u.told) from (((HS.out.below hb).alloc (.cells #[.int .i64 u.id, .int .i64 u.n, .int .i64 u.view, .int .i64 u.last, .bool u.works, .int .i64 u.commit, .slice u6 u.log.length u6', .slice u7 u.acks.length u7', .slice u8 u.votes.length u8'] 26)).and ((Stays.new w5 (.cells #[.int .i64 u.id, .int .i64 u.n, .int .i64 u.view, .int .i64 u.last, .bool u.works, .int .i64 u.commit, .slice u6 u.log.length u6', .slice u7 u.acks.length u7', .slice u8 u.votes.length u8'] 26)).and (hK.alloc (.cells #[.int .i64 u.id, .int .i64 u.n, .int .i64 u.view, .int .i64 u.last, .bool u.works, .int .i64 u.commit, .slice u6 u.log.length u6', .slice u7 u.acks.length u7', .slice u8 u.votes.length u8'] 26)))).mono (fun W' h => ⟨h.1.1, h.1.2, h.2.1, h.2.2.1, h.2.2.2⟩))
    replace HB := Aside0.mk (below_alloc (below_step HB.out hb) (.cells #[.int .i64 u.id, .int .i64 u.n, .int .i64 u.view, .int .i64 u.last, .bool u.works, .int .i64 u.commit, .slice u6 u.log.length u6', .slice u7 u.acks.length u7', .slice u8 u.votes.length u8'] 26))
    clear hK hb h9
    have q0 : (w5.alloc (.cells #[.int .i64 u.id, .int .i64 u.n, .int .i64 u.view, .int .i64 u.last, .bool u.works, .int .i64 u.commit, .slice u6 u.log.length u6', .slice u7 u.acks.length u7', .slice u8 u.votes.length u8'] 26)).cell? ⟨w.heap.size + 1, 0, none⟩ = some (.int .i64 m.f0) := blk_cell HS.out.here.2.1 0
    have q1 : (w5.alloc (.cells #[.int .i64 u.id, .int .i64 u.n, .int .i64 u.view, .int .i64 u.last, .bool u.works, .int .i64 u.commit, .slice u6 u.log.length u6', .slice u7 u.acks.length u7', .slice u8 u.votes.length u8'] 26)).cell? ⟨w.heap.size + 1, 1, none⟩ = some (.int .i64 m.f1) := blk_cell HS.out.here.2.1 1
    have q2 : (w5.alloc (.cells #[.int .i64 u.id, .int .i64 u.n, .int .i64 u.view, .int .i64 u.last, .bool u.works, .int .i64 u.commit, .slice u6 u.log.length u6', .slice u7 u.acks.length u7', .slice u8 u.votes.length u8'] 26)).cell? ⟨w.heap.size + 1, 2, none⟩ = some (.int .i64 m.f2) := blk_cell HS.out.here.2.1 2
    have q3 : (w5.alloc (.cells #[.int .i64 u.id, .int .i64 u.n, .int .i64 u.view, .int .i64 u.last, .bool u.works, .int .i64 u.commit, .slice u6 u.log.length u6', .slice u7 u.acks.length u7', .slice u8 u.votes.length u8'] 26)).cell? ⟨w.heap.size + 1, 3, none⟩ = some (.int .i64 m.f3) := blk_cell HS.out.here.2.1 3
    have q4 : (w5.alloc (.cells #[.int .i64 u.id, .int .i64 u.n, .int .i64 u.view, .int .i64 u.last, .bool u.works, .int .i64 u.commit, .slice u6 u.log.length u6', .slice u7 u.acks.length u7', .slice u8 u.votes.length u8'] 26)).cell? ⟨w.heap.size + 1, 4, none⟩ = some (.int .i64 m.f4) := blk_cell HS.out.here.2.1 4
    have q5 : (w5.alloc (.cells #[.int .i64 u.id, .int .i64 u.n, .int .i64 u.view, .int .i64 u.last, .bool u.works, .int .i64 u.commit, .slice u6 u.log.length u6', .slice u7 u.acks.length u7', .slice u8 u.votes.length u8'] 26)).cell? ⟨w.heap.size + 1, 5, none⟩ = some (.int .i64 m.f5) := blk_cell HS.out.here.2.1 5
    have q6 : (w5.alloc (.cells #[.int .i64 u.id, .int .i64 u.n, .int .i64 u.view, .int .i64 u.last, .bool u.works, .int .i64 u.commit, .slice u6 u.log.length u6', .slice u7 u.acks.length u7', .slice u8 u.votes.length u8'] 26)).cell? ⟨w.heap.size + 1, 6, none⟩ = some (.int .i64 m.f6) := blk_cell HS.out.here.2.1 6
    have q7 : (w5.alloc (.cells #[.int .i64 u.id, .int .i64 u.n, .int .i64 u.view, .int .i64 u.last, .bool u.works, .int .i64 u.commit, .slice u6 u.log.length u6', .slice u7 u.acks.length u7', .slice u8 u.votes.length u8'] 26)).cell? ⟨w.heap.size + 1, 7, none⟩ = some (.slice A m.f7.length c) := blk_cell HS.out.here.2.1 7
    go_wp2_with (fail)
    clear q0 q1 q2 q3 q4 q5 q6 q7
    generalize (w5.alloc (.cells #[.int .i64 u.id, .int .i64 u.n, .int .i64 u.view, .int .i64 u.last, .bool u.works, .int .i64 u.commit, .slice u6 u.log.length u6', .slice u7 u.acks.length u7', .slice u8 u.votes.length u8'] 26)) = V5 at HS HB ⊢
    go_at_call 8
    refine (handle_stays H4.out HF.out.2.2.2 HS.out.here.2.2.2.1 (Kd.C_below HM.out HB.out) LM.out).mono ?_
    rintro e1 w6 ⟨v6, v6', v7, v7', v8, v8', s6, s6', rfl, h9, hK, hb⟩
    replace HS := Aside0.mk (show Stays (w6.alloc (.cells #[.int .i64 v.id, .int .i64 v.n, .int .i64 v.view, .int .i64 v.last, .bool v.works, .int .i64 v.commit, .slice v6 v.log.length v6', .slice v7 v.acks.length v7', .slice v8 v.votes.length v8'] 26)) (fun W => W.heap[w.heap.size]? = some (.cells #[.int .i64 x.id, .int .i64 x.n, .int .i64 x.view, .int .i64 x.last, .bool x.works, .int .i64 x.commit, .slice A6 x.log.length c6, .slice A7 x.acks.length c7, .slice A8 x.votes.length c8] 26 (0, 0)) ∧ W.heap[w.heap.size + 1]? = some (.cells #[.int .i64 m.f0, .int .i64 m.f1, .int .i64 m.f2, .int .i64 m.f3, .int .i64 m.f4, .int .i64 m.f5, .int .i64 m.f6, .slice A m.f7.length c] 28 (0, 0)) ∧ W.heap[w5.heap.size]? = some (.cells #[.int .i64 u.id, .int .i64 u.n, .int .i64 u.view, .int .i64 u.last, .bool u.works, .int .i64 u.commit, .slice u6 u.log.length u6', .slice u7 u.acks.length u7', .slice u8 u.votes.length u8'] 26 (0, 0)) ∧ Arg W u u6 u7 u8 u6' u7' u8' ∧ Kd.C k28 W t6 u.told.length u.told ∧ W.heap[w6.heap.size]? = some (.cells #[.int .i64 v.id, .int .i64 v.n, .int .i64 v.view, .int .i64 v.last, .bool v.works, .int .i64 v.commit, .slice v6 v.log.length v6', .slice v7 v.acks.length v7', .slice v8 v.votes.length v8'] 26 (0, 0)) ∧ Arg W v v6 v7 v8 v6' v7' v8' ∧ Kd.C k28 W s6 v.told.length v.told) from (((HS.out.below hb).alloc (.cells #[.int .i64 v.id, .int .i64 v.n, .int .i64 v.view, .int .i64 v.last, .bool v.works, .int .i64 v.commit, .slice v6 v.log.length v6', .slice v7 v.acks.length v7', .slice v8 v.votes.length v8'] 26)).and ((Stays.new w6 (.cells #[.int .i64 v.id, .int .i64 v.n, .int .i64 v.view, .int .i64 v.last, .bool v.works, .int .i64 v.commit, .slice v6 v.log.length v6', .slice v7 v.acks.length v7', .slice v8 v.votes.length v8'] 26)).and (hK.alloc (.cells #[.int .i64 v.id, .int .i64 v.n, .int .i64 v.view, .int .i64 v.last, .bool v.works, .int .i64 v.commit, .slice v6 v.log.length v6', .slice v7 v.acks.length v7', .slice v8 v.votes.length v8'] 26)))).mono (fun W' h => ⟨h.1.1, h.1.2.1, h.1.2.2.1, h.1.2.2.2.1, h.1.2.2.2.2, h.2.1, h.2.2.1, h.2.2.2⟩))
    replace HB := Aside0.mk (below_alloc (below_step HB.out hb) (.cells #[.int .i64 v.id, .int .i64 v.n, .int .i64 v.view, .int .i64 v.last, .bool v.works, .int .i64 v.commit, .slice v6 v.log.length v6', .slice v7 v.acks.length v7', .slice v8 v.votes.length v8'] 26))
    clear hK hb h9
    rcases hg with hg | ⟨rfl, rfl⟩
    · go_wp2_with (go_at_call 9; refine (worked_calls _).mono ?_; rintro e1 w7 ⟨rfl, hb⟩; replace HB := Aside0.mk (below_step HB.out hb); clear hb)
      go_ret
      exact ⟨rfl, HB.out⟩
    · go_wp2_with (fail)
      go_at_call 9
      refine (worked_calls _).mono ?_
      rintro e1 w7 ⟨rfl, hb⟩
      replace HS := Aside0.mk (show Stays w7 (fun W => W.heap[w.heap.size]? = some (.cells #[.int .i64 x.id, .int .i64 x.n, .int .i64 x.view, .int .i64 x.last, .bool x.works, .int .i64 x.commit, .slice A6 x.log.length c6, .slice A7 x.acks.length c7, .slice A8 x.votes.length c8] 26 (0, 0)) ∧ W.heap[w.heap.size + 1]? = some (.cells #[.int .i64 m.f0, .int .i64 m.f1, .int .i64 m.f2, .int .i64 m.f3, .int .i64 m.f4, .int .i64 m.f5, .int .i64 m.f6, .slice A m.f7.length c] 28 (0, 0)) ∧ W.heap[w5.heap.size]? = some (.cells #[.int .i64 u.id, .int .i64 u.n, .int .i64 u.view, .int .i64 u.last, .bool u.works, .int .i64 u.commit, .slice u6 u.log.length u6', .slice u7 u.acks.length u7', .slice u8 u.votes.length u8'] 26 (0, 0)) ∧ Arg W u u6 u7 u8 u6' u7' u8' ∧ Kd.C k28 W t6 u.told.length u.told ∧ W.heap[w6.heap.size]? = some (.cells #[.int .i64 v.id, .int .i64 v.n, .int .i64 v.view, .int .i64 v.last, .bool v.works, .int .i64 v.commit, .slice v6 v.log.length v6', .slice v7 v.acks.length v7', .slice v8 v.votes.length v8'] 26 (0, 0)) ∧ Arg W v v6 v7 v8 v6' v7' v8' ∧ Kd.C k28 W s6 v.told.length v.told) from HS.out.below hb)
      replace HB := Aside0.mk (below_step HB.out hb)
      clear hb
      have ka0 : w7.cell? ⟨w5.heap.size, 0, none⟩ = some (.int .i64 u.id) := blk_cell HS.out.here.2.2.1 0
      have ka1 : w7.cell? ⟨w5.heap.size, 1, none⟩ = some (.int .i64 u.n) := blk_cell HS.out.here.2.2.1 1
      have ka2 : w7.cell? ⟨w5.heap.size, 2, none⟩ = some (.int .i64 u.view) := blk_cell HS.out.here.2.2.1 2
      have ka3 : w7.cell? ⟨w5.heap.size, 3, none⟩ = some (.int .i64 u.last) := blk_cell HS.out.here.2.2.1 3
      have ka4 : w7.cell? ⟨w5.heap.size, 4, none⟩ = some (.bool u.works) := blk_cell HS.out.here.2.2.1 4
      have ka5 : w7.cell? ⟨w5.heap.size, 5, none⟩ = some (.int .i64 u.commit) := blk_cell HS.out.here.2.2.1 5
      have ka6 : w7.cell? ⟨w5.heap.size, 6, none⟩ = some (.slice u6 u.log.length u6') := blk_cell HS.out.here.2.2.1 6
      have ka7 : w7.cell? ⟨w5.heap.size, 7, none⟩ = some (.slice u7 u.acks.length u7') := blk_cell HS.out.here.2.2.1 7
      have ka8 : w7.cell? ⟨w5.heap.size, 8, none⟩ = some (.slice u8 u.votes.length u8') := blk_cell HS.out.here.2.2.1 8
      have kb0 : w7.cell? ⟨w6.heap.size, 0, none⟩ = some (.int .i64 v.id) := blk_cell HS.out.here.2.2.2.2.2.1 0
      have kb1 : w7.cell? ⟨w6.heap.size, 1, none⟩ = some (.int .i64 v.n) := blk_cell HS.out.here.2.2.2.2.2.1 1
      have kb2 : w7.cell? ⟨w6.heap.size, 2, none⟩ = some (.int .i64 v.view) := blk_cell HS.out.here.2.2.2.2.2.1 2
      have kb3 : w7.cell? ⟨w6.heap.size, 3, none⟩ = some (.int .i64 v.last) := blk_cell HS.out.here.2.2.2.2.2.1 3
      have kb4 : w7.cell? ⟨w6.heap.size, 4, none⟩ = some (.bool v.works) := blk_cell HS.out.here.2.2.2.2.2.1 4
      have kb5 : w7.cell? ⟨w6.heap.size, 5, none⟩ = some (.int .i64 v.commit) := blk_cell HS.out.here.2.2.2.2.2.1 5
      have kb6 : w7.cell? ⟨w6.heap.size, 6, none⟩ = some (.slice v6 v.log.length v6') := blk_cell HS.out.here.2.2.2.2.2.1 6
      have kb7 : w7.cell? ⟨w6.heap.size, 7, none⟩ = some (.slice v7 v.acks.length v7') := blk_cell HS.out.here.2.2.2.2.2.1 7
      have kb8 : w7.cell? ⟨w6.heap.size, 8, none⟩ = some (.slice v8 v.votes.length v8') := blk_cell HS.out.here.2.2.2.2.2.1 8
      go_wp2_with (go_at_call 10; refine (same_stays HSM.out.2 HS.out.here.2.2.2.1 HS.out.here.2.2.2.2.2.2.1).mono ?_; rintro e1 w8 ⟨rfl, hb⟩; replace HB := Aside0.mk (below_step HB.out hb); clear hb)
      go_ret
      exact ⟨rfl, HB.out⟩
end Go.Proofs.Ytfpfpckocemmdaa.P
end
section
namespace Go.Proofs.Ytfpfpckocemmdaa.P
open Go.RowKit Go.Proofs.YtfpfpckocemmdaaW.PrintWords Go.Proofs.YtfpfpckocemmdaaW.PrintLast Go.Proofs.YtfpfpckocemmdaaW.PrintMore
set_option linter.unusedVariables false
set_option linter.unusedSimpArgs false
theorem loggedB_iff (l : List ByteArray) (c : Int) : loggedB l c = true ↔ l.length ≤ 60 ∧ 0 ≤ c ∧ c ≤ (l.length : Int) ∧ l.any longB = false := by
  constructor
  · exact loggedB_len
  · intro ⟨h1, h2, h3, h4⟩
    unfold loggedB
    simp only [Bool.and_eq_true, decide_eq_true_eq, withinB_iff, Bool.not_eq_true']
    exact ⟨by omega, ⟨h2, h3⟩, h4⟩
def VoteOk (n view : Int) (v : S66) : Prop := 0 ≤ v.f0 ∧ v.f0 ≤ n - 1 ∧ 0 ≤ v.f1 ∧ v.f1 ≤ view ∧ loggedB v.f3 v.f2 = true
theorem votesB_of (n view : Int) : ∀ (l : List S66) (seen : List Int), (∀ v, v ∈ l → VoteOk n view v ∧ v.f0 ∉ seen) → (l.map (·.f0)).Nodup → votesB n view l seen = true := by
  intro l
  induction l with
  | nil => intro _ _ _; rfl
  | cons u l ih =>
    intro seen h hd
    rw [List.map_cons, List.nodup_cons] at hd
    obtain ⟨⟨h1, h2, h3, h4, h5⟩, h6⟩ := h u List.mem_cons_self
    unfold votesB
    rw [if_neg]
    · refine ih _ (fun v hv => ⟨(h v (List.mem_cons_of_mem _ hv)).1, fun hm => ?_⟩) hd.2
      rcases List.mem_cons.1 hm with e | hm
      · exact hd.1 (List.mem_map.2 ⟨v, hv, e⟩)
      · exact (h v (List.mem_cons_of_mem _ hv)).2 hm
    · have e1 : seen.contains u.f0 = false := by
        rw [Bool.eq_false_iff]
        intro hc
        exact h6 (List.contains_iff_mem.1 hc)
      have e2 : withinB u.f0 (n - 1) = true := (withinB_iff _ _).2 ⟨h1, h2⟩
      have e3 : withinB u.f1 view = true := (withinB_iff _ _).2 ⟨h3, h4⟩
      rw [e1, e2, e3, h5]
      simp
theorem votesB_ok {n view : Int} {l : List S66} (h : votesB n view l [] = true) : ∀ v, v ∈ l → VoteOk n view v := fun v hv => by
  have := votesB_all n view l [] h v hv
  exact ⟨this.2.1, this.2.2.1, this.2.2.2.1, this.2.2.2.2.1, this.2.2.2.2.2⟩
theorem nodup_range : ∀ (n : Nat) (l : List Int), l.Nodup → (∀ a, a ∈ l → 0 ≤ a ∧ a ≤ (n : Int) - 1) → l.length ≤ n := by
  intro n
  induction n with
  | zero =>
    intro l hd h
    cases l with
    | nil => simp
    | cons a l => have := h a List.mem_cons_self; omega
  | succ n ih =>
    intro l hd h
    by_cases hm : ((n : Nat) : Int) ∈ l
    · have h1 := ih (l.erase (n : Int)) (hd.erase _) (fun a ha => by
        have ha2 := (hd.mem_erase_iff).1 ha
        have := h a ha2.2
        have h3 := ha2.1
        omega)
      have h2 := List.length_erase_of_mem hm
      omega
    · have := ih l hd (fun a ha => by
        have h1 := h a ha
        have : a ≠ (n : Int) := fun e => hm (e ▸ ha)
        omega)
      omega
theorem commitOf_bound (l : List Int) (B : Int) (hB : 0 ≤ B) (h : ∀ a, a ∈ l → a ≤ B) : 0 ≤ commitOf l ∧ commitOf l ≤ B := by
  unfold commitOf
  split
  · exact ⟨Int.le_refl _, hB⟩
  · have hg : (quorum_Commit.sorted l).getD (l.length - (l.length / 2 + 1)) 0 ≤ B := by
      rw [List.getD_eq_getElem?_getD]
      cases hx : (quorum_Commit.sorted l)[l.length - (l.length / 2 + 1)]? with
      | none => exact hB
      | some a => exact h a ((quorum_Commit.sorted_perm l).mem_iff.1 (List.mem_of_getElem? hx))
    omega
theorem Right.told {x : Nod} (h : Right x) (t : List S28) : Right { x with told := t } := ⟨h.size, h.id0, h.id1, h.view0, h.view1, h.last0, h.last1, h.works, h.log, h.acks, h.each, h.count, h.votes⟩
theorem Right.len {x : Nod} (h : Right x) : x.log.length ≤ 60 ∧ 0 ≤ x.commit ∧ x.commit ≤ (x.log.length : Int) ∧ x.log.any longB = false := loggedB_len h.log
theorem Right.clear {x : Nod} (h : Right x) : Right x.clear := by
  have h7 := h.n7
  refine ⟨h.size, h.id0, h.id1, h.view0, h.view1, h.last0, h.last1, h.works, h.log, ?_, ?_, ?_, rfl⟩
  · show ((List.replicate x.n.toNat (0 : Int)).length : Int) = x.n
    rw [List.length_replicate]; omega
  · intro a ha
    have : a = 0 := List.eq_of_mem_replicate ha
    subst this
    exact ⟨Int.le_refl _, by show (0 : Int) ≤ (x.log.length : Int); omega⟩
  · show (0 : Int) ≤ x.n; omega
theorem Right.counts {x : Nod} (h : Right x) : Right x.counts ∧ x.commit ≤ x.counts.commit := by
  unfold Nod.counts Nod.count
  split
  · have hl := h.len
    have hm : ∀ a, a ∈ x.acks.set x.id.toNat (x.log.length : Int) → 0 ≤ a ∧ a ≤ (x.log.length : Int) := by
      intro a ha
      rcases List.mem_or_eq_of_mem_set ha with ha | rfl
      · exact h.each a ha
      · exact ⟨by omega, Int.le_refl _⟩
    have hc := commitOf_bound (x.acks.set x.id.toNat (x.log.length : Int)) (x.log.length : Int) (by omega) (fun a ha => (hm a ha).2)
    refine ⟨⟨h.size, h.id0, h.id1, h.view0, h.view1, h.last0, h.last1, h.works, ?_, ?_, hm, h.count, h.votes⟩, ?_⟩
    · exact (loggedB_iff _ _).2 ⟨hl.1, by show 0 ≤ max x.commit _; omega, by show max x.commit _ ≤ (x.log.length : Int); omega, hl.2.2.2⟩
    · show ((x.acks.set _ _).length : Int) = x.n
      rw [List.length_set]; exact h.acks
    · show x.commit ≤ max x.commit _; omega
  · exact ⟨h, Int.le_refl _⟩
theorem counts_same (x : Nod) : x.counts.id = x.id ∧ x.counts.n = x.n ∧ x.counts.view = x.view ∧ x.counts.last = x.last ∧ x.counts.works = x.works ∧ x.counts.log = x.log ∧ x.counts.votes = x.votes ∧ x.counts.told = x.told := by
  unfold Nod.counts Nod.count
  split <;> exact ⟨rfl, rfl, rfl, rfl, rfl, rfl, rfl, rfl⟩
theorem Right.ownVote {x : Nod} (h : Right x) : VoteOk x.n x.view x.ownVote := ⟨h.id0, by show x.id ≤ x.n - 1; have := h.id1; omega, h.last0, h.last1, h.log⟩
theorem Right.joins {x : Nod} (h : Right x) (v : Int) (h1 : x.view ≤ v) (h2 : v ≤ 1000000) : Right (x.joins v) := by
  have hc := h.clear
  have h7 := h.n7
  have hv0 := h.view0
  have hl1 := h.last1
  refine ⟨h.size, h.id0, h.id1, by show 0 ≤ v; omega, h2, h.last0, by show x.last ≤ v; omega, fun hw => (by cases hw), h.log, hc.acks, hc.each, by show ((1 : Nat) : Int) ≤ x.n; omega, ?_⟩
  have ho := h.ownVote
  exact votesB_of x.n v [x.ownVote] [] (fun u hu => by
    rw [List.mem_singleton] at hu
    subst hu
    exact ⟨⟨ho.1, ho.2.1, ho.2.2.1, by have := ho.2.2.2.1; omega, ho.2.2.2.2⟩, by simp⟩) (by simp)
theorem Right.add {x : Nod} (h : Right x) (v : S66) (hv : VoteOk x.n x.view v) : Right { x with votes := addTo x.votes v } := by
  have hall := votesB_ok h.votes
  have hnd := votesB_nodup _ _ _ _ h.votes
  have hok : ∀ u, u ∈ addTo x.votes v → VoteOk x.n x.view u := by
    intro u hu
    unfold addTo at hu
    rcases List.mem_append.1 hu with hu | hu
    · exact hall u (List.mem_filter.1 hu).1
    · rw [List.mem_singleton] at hu; subst hu; exact hv
  have hd : ((addTo x.votes v).map (·.f0)).Nodup := by
    unfold addTo
    rw [List.map_append, List.nodup_append]
    refine ⟨?_, by simp, ?_⟩
    · exact hnd.sublist (List.Sublist.map _ List.filter_sublist)
    · intro a ha b hb e
      simp only [List.map_cons, List.map_nil, List.mem_singleton] at hb
      obtain ⟨u, hu, rfl⟩ := List.mem_map.1 ha
      have := (List.mem_filter.1 hu).2
      simp only [ne_eq, decide_eq_true_eq, decide_not, Bool.not_eq_true', decide_eq_false_iff_not] at this
      exact this (by rw [e, hb])
  have hn := h.n7
  have hcount : ((addTo x.votes v).length : Int) ≤ x.n := by
    have := nodup_range x.n.toNat ((addTo x.votes v).map (·.f0)) hd (fun a ha => by
      obtain ⟨u, hu, rfl⟩ := List.mem_map.1 ha
      have := hok u hu
      exact ⟨this.1, by have := this.2.1; omega⟩)
    rw [List.length_map] at this
    omega
  exact ⟨h.size, h.id0, h.id1, h.view0, h.view1, h.last0, h.last1, h.works, h.log, h.acks, h.each, hcount, votesB_of _ _ _ [] (fun u hu => ⟨hok u hu, by simp⟩) hd⟩
theorem mostOf_ge (l : List S66) : 0 ≤ mostOf l := by
  unfold mostOf
  have : ∀ (l : List S66) (a : Int), 0 ≤ a → 0 ≤ l.foldl (fun a v => max a v.f2) a := by
    intro l
    induction l with
    | nil => intro a h; exact h
    | cons v l ih => intro a h; exact ih _ (by show 0 ≤ max a v.f2; omega)
  exact this l 0 (Int.le_refl _)
theorem Right.rise {x : Nod} (h : Right x) (hne : x.votes ≠ []) : Right x.rise.clear := by
  have h7 := h.n7
  have hb := (votesB_ok h.votes _ (bestOf_mem x.votes hne)).2.2.2.2
  have hl := loggedB_len hb
  have hm := mostOf_ge x.votes
  refine ⟨h.size, h.id0, h.id1, h.view0, h.view1, h.view0, Int.le_refl _, fun _ => rfl, ?_, ?_, ?_, by show (0 : Int) ≤ x.n; omega, rfl⟩
  · exact (loggedB_iff _ _).2 ⟨hl.1, by show 0 ≤ min (mostOf x.votes) ((bestOf x.votes).f3.length : Int); omega, by show min (mostOf x.votes) _ ≤ ((bestOf x.votes).f3.length : Int); omega, hl.2.2.2⟩
  · show ((List.replicate x.n.toNat (0 : Int)).length : Int) = x.n
    rw [List.length_replicate]; omega
  · intro a ha
    have : a = 0 := List.eq_of_mem_replicate ha
    subst this
    exact ⟨Int.le_refl _, by show (0 : Int) ≤ ((bestOf x.votes).f3.length : Int); omega⟩
theorem Right.prep {x : Nod} (h : Right x) (j : Int) (h0 : 0 ≤ j) (h1 : j < x.n) (h2 : ¬ j = x.id) : Tells x (x.prep j) := by
  have h7 := h.n7
  have hi0 := h.id0
  have hi1 := h.id1
  have hv0 := h.view0
  have hv1 := h.view1
  refine ⟨?_, rfl, h2, h1, rfl⟩
  unfold msgB
  rw [if_pos]
  · rw [if_pos (show (x.prep j).f0 = 1 from rfl)]
    simp only [Bool.and_eq_true, decide_eq_true_eq]
    exact ⟨⟨h.log, rfl⟩, rfl⟩
  · simp only [Bool.and_eq_true, withinB_iff]
    exact ⟨⟨⟨hi0, by show x.id ≤ 6; omega⟩, h0, by show j ≤ 6; omega⟩, hv0, hv1⟩
theorem Right.upto {x : Nod} (h : Right x) : ∀ m, m ∈ x.upto x.n.toNat → Tells x m := by
  intro m hm
  unfold Nod.upto at hm
  obtain ⟨j, hj, rfl⟩ := List.mem_map.1 hm
  obtain ⟨h1, h2⟩ := List.mem_filter.1 hj
  rw [List.mem_range] at h1
  have h7 := h.n7
  exact h.prep j (by omega) (by omega) (by simpa using h2)
structure Fine (x u : Nod) : Prop where
  right : Right u
  told : ∀ m, m ∈ u.told → Tells u m
  id : u.id = x.id
  n : u.n = x.n
theorem Tells.told {x : Nod} {m : S28} (h : Tells x m) (t : List S28) : Tells { x with told := t } m := ⟨h.may, h.src, h.other, h.dst, h.view⟩
theorem Right.tell {x : Nod} (h : Right x) (ht : x.told = []) : Fine x x.tell := by
  refine ⟨h.told _, fun m hm => ?_, rfl, rfl⟩
  change m ∈ x.told ++ x.upto x.n.toNat at hm
  rw [ht, List.nil_append] at hm
  exact (h.upto m hm).told _
theorem Fine.of {x : Nod} (h : Right x) (ht : x.told = []) : Fine x x := ⟨h, fun m hm => (by rw [ht] at hm; cases hm), rfl, rfl⟩
theorem Right.begins {x : Nod} (h : Right x) (ht : x.told = []) : Fine x x.begin_ ∧ x.begin_.view = x.view ∧ x.last ≤ x.begin_.last := by
  unfold Nod.begin_
  split
  · rename_i hm
    unfold Nod.may at hm
    simp only [Bool.and_eq_true] at hm
    have hne := enough_ne x.votes x.n (by have := h.n7; omega) hm.2
    have hr := h.rise hne
    have hc := hr.counts
    have hs := counts_same x.rise.clear
    have hf := hc.1.tell (by rw [hs.2.2.2.2.2.2.2]; exact ht)
    refine ⟨⟨hf.right, hf.told, ?_, ?_⟩, ?_, ?_⟩
    · exact hs.1
    · exact hs.2.1
    · exact hs.2.2.1
    · show x.last ≤ x.rise.clear.counts.last
      rw [hs.2.2.2.1]
      exact h.last1
  · exact ⟨Fine.of h ht, rfl, Int.le_refl _⟩
theorem Fine.say {x u : Nod} (h : Fine x u) (m : S28) (hm : Tells u m) : Fine x (u.say m) := by
  refine ⟨h.right.told _, fun k hk => ?_, h.id, h.n⟩
  change k ∈ u.told ++ [m] at hk
  rcases List.mem_append.1 hk with hk | hk
  · exact (h.told k hk).told _
  · rw [List.mem_singleton] at hk; subst hk; exact hm.told _
end Go.Proofs.Ytfpfpckocemmdaa.P
end
section
namespace Go.Proofs.Ytfpfpckocemmdaa.P
open Go.RowKit Go.Proofs.YtfpfpckocemmdaaW.PrintWords Go.Proofs.YtfpfpckocemmdaaW.PrintLast Go.Proofs.YtfpfpckocemmdaaW.PrintMore
set_option linter.unusedVariables false
set_option linter.unusedSimpArgs false
theorem msgB_range {m : S28} (h : msgB m = true) : (0 ≤ m.f1 ∧ m.f1 ≤ 6) ∧ (0 ≤ m.f2 ∧ m.f2 ≤ 6) ∧ (0 ≤ m.f3 ∧ m.f3 ≤ 1000000) := by
  unfold msgB at h
  split at h
  · rename_i hc
    simp only [Bool.and_eq_true, withinB_iff] at hc
    exact ⟨hc.1.1, hc.1.2, hc.2⟩
  · cases h
theorem msgB_one {m : S28} (h : msgB m = true) (hk : m.f0 = 1) : loggedB m.f7 m.f5 = true := by
  unfold msgB at h
  simp only [hk, if_true, Bool.if_false_right, Bool.and_eq_true, decide_eq_true_eq] at h
  exact h.2.1.1
theorem msgB_two {m : S28} (h : msgB m = true) (hk : m.f0 = 2) : 0 ≤ m.f6 ∧ m.f6 ≤ 60 := by
  unfold msgB at h
  simp only [hk, show ¬ (2 : Int) = 1 by decide, if_true, if_false, Bool.if_false_right, Bool.and_eq_true, decide_eq_true_eq, withinB_iff] at h
  exact h.2.2
theorem msgB_three {m : S28} (h : msgB m = true) (hk : m.f0 = 3) : loggedB m.f7 m.f5 = true ∧ 0 ≤ m.f4 ∧ m.f4 ≤ m.f3 := by
  unfold msgB at h
  simp only [hk, show ¬ (3 : Int) = 1 by decide, show ¬ (3 : Int) = 2 by decide, if_true, if_false, Bool.if_false_right, Bool.and_eq_true, decide_eq_true_eq, withinB_iff] at h
  exact ⟨h.2.1.1, h.2.1.2⟩
structure For (x : Nod) (m : S28) : Prop where
  may : msgB m = true
  dst : m.f2 = x.id
  other : ¬ m.f1 = x.id
  src : m.f1 < x.n
theorem for_iff (x : Nod) (m : S28) : okMsg x m = true ↔ For x m := by
  unfold okMsg
  simp only [Bool.and_eq_true, decide_eq_true_eq, Bool.not_eq_true', decide_eq_false_iff_not]
  exact ⟨fun h => ⟨h.1.1.1, h.1.1.2, h.1.2, h.2⟩, fun h => ⟨⟨⟨h.may, h.dst⟩, h.other⟩, h.src⟩⟩
theorem For.same {x y : Nod} {m : S28} (h : For x m) (h1 : y.id = x.id) (h2 : y.n = x.n) : For y m := ⟨h.may, h.dst.trans h1.symm, by rw [h1]; exact h.other, by rw [h2]; exact h.src⟩
def Alike9 (x y : Nod) : Prop := { x with told := [] } = { y with told := [] }
theorem Alike9.refl (x : Nod) : Alike9 x x := rfl
theorem Right.takes {x : Nod} (h : Right x) (m : S28) (hm : msgB m = true) (hk : m.f0 = 1) (hv : x.view ≤ m.f3) : Right ((x.takes m).settle m) ∧ ((x.takes m).settle m).view = m.f3 ∧ ((x.takes m).settle m).works = true ∧ x.last ≤ ((x.takes m).settle m).last ∧ ((x.takes m).settle m).id = x.id ∧ ((x.takes m).settle m).n = x.n ∧ ((x.takes m).settle m).told = x.told ∧ (m.f7.length ≤ ((x.takes m).settle m).log.length) := by
  have hr := msgB_range hm
  have hl := (loggedB_iff _ _).1 (msgB_one hm hk)
  have hx := h.len
  have h7 := h.n7
  have hl1 := h.last1
  unfold Nod.takes
  split
  · refine ⟨⟨h.size, h.id0, h.id1, hr.2.2.1, hr.2.2.2, hr.2.2.1, Int.le_refl _, fun _ => rfl, ?_, ?_, ?_, by show (0 : Int) ≤ x.n; omega, rfl⟩, rfl, rfl, by show x.last ≤ m.f3; omega, rfl, rfl, rfl, Nat.le_refl _⟩
    · refine (loggedB_iff _ _).2 ⟨hl.1, ?_, ?_, hl.2.2.2⟩
      · show 0 ≤ min (max x.commit m.f5) (m.f7.length : Int); omega
      · show min (max x.commit m.f5) (m.f7.length : Int) ≤ (m.f7.length : Int); omega
    · show ((List.replicate x.n.toNat (0 : Int)).length : Int) = x.n
      rw [List.length_replicate]; omega
    · intro a ha
      have : a = 0 := List.eq_of_mem_replicate ha
      subst this
      exact ⟨Int.le_refl _, by show (0 : Int) ≤ (m.f7.length : Int); omega⟩
  · rename_i hc
    have hvw : x.view = m.f3 := by
      by_cases e : m.f3 > x.view
      · exact absurd (.inl e) hc
      · omega
    have hw : x.works = true := by
      cases e : x.works with
      | false => exact absurd (.inr e) hc
      | true => rfl
    split
    · rename_i hlen
      refine ⟨⟨h.size, h.id0, h.id1, h.view0, h.view1, h.last0, h.last1, h.works, ?_, h.acks, ?_, h.count, h.votes⟩, hvw, hw, Int.le_refl _, rfl, rfl, rfl, Nat.le_refl _⟩
      · refine (loggedB_iff _ _).2 ⟨hl.1, ?_, ?_, hl.2.2.2⟩
        · show 0 ≤ min (max x.commit m.f5) (m.f7.length : Int); omega
        · show min (max x.commit m.f5) (m.f7.length : Int) ≤ (m.f7.length : Int); omega
      · intro a ha
        have := h.each a ha
        exact ⟨this.1, by show a ≤ (m.f7.length : Int); omega⟩
    · rename_i hlen
      refine ⟨⟨h.size, h.id0, h.id1, h.view0, h.view1, h.last0, h.last1, h.works, ?_, h.acks, h.each, h.count, h.votes⟩, hvw, hw, Int.le_refl _, rfl, rfl, rfl, by show m.f7.length ≤ x.log.length; omega⟩
      refine (loggedB_iff _ _).2 ⟨hx.1, ?_, ?_, hx.2.2.2⟩
      · show 0 ≤ min (max x.commit m.f5) (x.log.length : Int); omega
      · show min (max x.commit m.f5) (x.log.length : Int) ≤ (x.log.length : Int); omega
theorem Right.ackOf {z : Nod} (h : Right z) (m : S28) (h0 : 0 ≤ m.f1) (h1 : m.f1 < z.n) (h2 : ¬ m.f1 = z.id) : Tells z (z.ackOf m) := by
  have h7 := h.n7
  have hi0 := h.id0
  have hi1 := h.id1
  have hl := h.len
  refine ⟨?_, rfl, h2, h1, rfl⟩
  unfold msgB
  rw [if_pos]
  · rw [if_neg (by show ¬ (2 : Int) = 1; decide), if_pos (show (z.ackOf m).f0 = 2 from rfl)]
    simp only [Bool.and_eq_true, decide_eq_true_eq, withinB_iff]
    exact ⟨⟨⟨rfl, rfl⟩, rfl⟩, by show (0 : Int) ≤ (z.log.length : Int); omega, by show (z.log.length : Int) ≤ 60; omega⟩
  · simp only [Bool.and_eq_true, withinB_iff]
    exact ⟨⟨⟨hi0, by show z.id ≤ 6; omega⟩, h0, by show m.f1 ≤ 6; omega⟩, h.view0, h.view1⟩
theorem settle_twice {z : Nod} (m : S28) (hw : z.works = true) (hv : z.view = m.f3) (hl : m.f7.length ≤ z.log.length) (hc : min (max z.commit m.f5) (z.log.length : Int) = z.commit) : (z.takes m).settle m = z := by
  unfold Nod.takes
  rw [if_neg (by rintro (h | h); omega; rw [hw] at h; cases h), if_neg (by omega)]
  unfold Nod.settle
  rw [hc]
structure Steps (x : Nod) (m : S28) (u : Nod) : Prop where
  fine : Fine x u
  view : x.view ≤ u.view
  last : x.last ≤ u.last
theorem prepare_steps {x : Nod} (h : Right x) (ht : x.told = []) (m : S28) (hf : For x m) (hk : m.f0 = 1) (hv : x.view ≤ m.f3) : Steps x m (x.prepare m) := by
  unfold Nod.prepare
  split
  · have hr := msgB_range hf.may
    obtain ⟨k1, k2, k3, k4, k5, k6, k7, k8⟩ := h.takes m hf.may hk hv
    refine ⟨Fine.say ⟨k1, fun a ha => (by rw [k7, ht] at ha; cases ha), k5, k6⟩ _ (k1.ackOf m hr.1.1 (by rw [k6]; exact hf.src) (by rw [k5]; exact hf.other)), ?_, ?_⟩
    · show x.view ≤ ((x.takes m).settle m).view; rw [k2]; exact hv
    · exact k4
  · exact ⟨Fine.of h ht, Int.le_refl _, Int.le_refl _⟩
theorem prepare_twice {x : Nod} (h : Right x) (m : S28) (hm : msgB m = true) (hk : m.f0 = 1) (hv : x.view ≤ m.f3) : Alike9 ({ x.prepare m with told := [] } : Nod) (Nod.prepare { x.prepare m with told := [] } m) := by
  by_cases hp : m.f3 % x.n = m.f1
  · obtain ⟨k1, k2, k3, k4, k5, k6, k7, k8⟩ := h.takes m hm hk hv
    have e : x.prepare m = ((x.takes m).settle m).say (((x.takes m).settle m).ackOf m) := by unfold Nod.prepare; rw [if_pos hp]
    rw [e]
    have hc : min (max ((x.takes m).settle m).commit m.f5) (((x.takes m).settle m).log.length : Int) = ((x.takes m).settle m).commit := by
      show min (max (min (max (x.takes m).commit m.f5) ((x.takes m).log.length : Int)) m.f5) ((x.takes m).log.length : Int) = min (max (x.takes m).commit m.f5) ((x.takes m).log.length : Int)
      omega
    generalize (x.takes m).settle m = z at *
    have h2 : (({ z.say (z.ackOf m) with told := [] } : Nod).takes m).settle m = ({ z.say (z.ackOf m) with told := [] } : Nod) := settle_twice m k3 k2 k8 hc
    have e3 : Nod.prepare ({ z.say (z.ackOf m) with told := [] } : Nod) m = ((({ z.say (z.ackOf m) with told := [] } : Nod).takes m).settle m).say (((({ z.say (z.ackOf m) with told := [] } : Nod).takes m).settle m).ackOf m) := if_pos (show m.f3 % z.n = m.f1 by rw [k6]; exact hp)
    rw [e3, h2]
    rfl
  · have e : x.prepare m = x := by unfold Nod.prepare; rw [if_neg hp]
    rw [e]
    have e2 : Nod.prepare { x with told := [] } m = { x with told := [] } := by unfold Nod.prepare; rw [if_neg hp]
    rw [e2]
    rfl
end Go.Proofs.Ytfpfpckocemmdaa.P
end
section
namespace Go.Proofs.Ytfpfpckocemmdaa.P
open Go.RowKit Go.Proofs.YtfpfpckocemmdaaW.PrintWords Go.Proofs.YtfpfpckocemmdaaW.PrintLast Go.Proofs.YtfpfpckocemmdaaW.PrintMore
set_option linter.unusedVariables false
set_option linter.unusedSimpArgs false
theorem Right.acked {x : Nod} (h : Right x) (m : S28) (h6 : 0 ≤ m.f6) : Right (x.acked m) := by
  refine ⟨h.size, h.id0, h.id1, h.view0, h.view1, h.last0, h.last1, h.works, h.log, ?_, ?_, h.count, h.votes⟩
  · show ((x.acks.set _ _).length : Int) = x.n
    rw [List.length_set]; exact h.acks
  · intro a ha
    change a ∈ x.acks.set m.f1.toNat (max (x.acks.getD m.f1.toNat 0) (min m.f6 (x.log.length : Int))) at ha
    rcases List.mem_or_eq_of_mem_set ha with ha | rfl
    · exact h.each a ha
    · have hg : 0 ≤ x.acks.getD m.f1.toNat 0 ∧ x.acks.getD m.f1.toNat 0 ≤ (x.log.length : Int) := by
        rw [List.getD_eq_getElem?_getD]
        cases hx : x.acks[m.f1.toNat]? with
        | none => exact ⟨Int.le_refl _, by show (0 : Int) ≤ (x.log.length : Int); omega⟩
        | some a => exact h.each a (List.mem_of_getElem? hx)
      refine ⟨by omega, ?_⟩
      show max (x.acks.getD m.f1.toNat 0) (min m.f6 (x.log.length : Int)) ≤ (x.log.length : Int)
      omega
theorem ack_steps {x : Nod} (h : Right x) (ht : x.told = []) (m : S28) (hf : For x m) (hk : m.f0 = 2) (hv : x.view ≤ m.f3) : Steps x m (x.ack m) ∧ (x.ack m).view = x.view := by
  unfold Nod.ack
  split
  · have hr := (h.acked m (msgB_two hf.may hk).1).counts.1
    have hs := counts_same (x.acked m)
    have hto : (x.acked m).counts.told = [] := by rw [hs.2.2.2.2.2.2.2]; exact ht
    split
    · have hft := hr.tell hto
      exact ⟨⟨⟨hft.right, hft.told, hs.1, hs.2.1⟩, by show x.view ≤ (x.acked m).counts.view; rw [hs.2.2.1]; exact Int.le_refl _, by show x.last ≤ (x.acked m).counts.last; rw [hs.2.2.2.1]; exact Int.le_refl _⟩, hs.2.2.1⟩
    · exact ⟨⟨⟨hr, fun a ha => (by rw [hto] at ha; cases ha), hs.1, hs.2.1⟩, by rw [hs.2.2.1]; exact Int.le_refl _, by rw [hs.2.2.2.1]; exact Int.le_refl _⟩, hs.2.2.1⟩
  · exact ⟨⟨Fine.of h ht, Int.le_refl _, Int.le_refl _⟩, rfl⟩
theorem set_self {l : List Int} {i : Nat} {a : Int} (h : l[i]? = some a) : l.set i a = l := by
  apply List.ext_getElem?
  intro k
  rw [List.getElem?_set]
  split
  · rename_i e; subst e
    rw [h]
    have := (List.getElem?_eq_some_iff.1 h).1
    simp [this]
  · rfl
theorem ack_core (x : Nod) (m : S28) (hl : x.leads = true) (hne : m.f1.toNat ≠ x.id.toNat) (hi : x.id.toNat < x.acks.length) (hf : m.f1.toNat < x.acks.length) :
    (({ (x.acked m).counts with told := [] } : Nod).acked m).counts = ({ (x.acked m).counts with told := [] } : Nod) := by
  have hz : (x.acked m).counts = { x with acks := ((x.acked m).acks.set x.id.toNat (x.log.length : Int)), commit := max x.commit (commitOf ((x.acked m).acks.set x.id.toNat (x.log.length : Int))) } := by
    unfold Nod.counts Nod.count
    exact if_pos (show (x.acked m).leads = true from hl)
  rw [hz]
  have e1 : ((x.acked m).acks.set x.id.toNat (x.log.length : Int))[m.f1.toNat]? = some (max (x.acks.getD m.f1.toNat 0) (min m.f6 (x.log.length : Int))) := by
    rw [List.getElem?_set_ne (Ne.symm hne)]
    show (x.acks.set m.f1.toNat _)[m.f1.toNat]? = _
    rw [List.getElem?_set_self hf]
  have e2 : ((x.acked m).acks.set x.id.toNat (x.log.length : Int))[x.id.toNat]? = some (x.log.length : Int) := by
    rw [List.getElem?_set_self]
    show x.id.toNat < (x.acks.set _ _).length
    rw [List.length_set]; exact hi
  generalize (x.acked m).acks.set x.id.toNat (x.log.length : Int) = L at *
  have h3 : (({ ({ x with acks := L, commit := max x.commit (commitOf L) } : Nod) with told := [] } : Nod).acked m) = ({ ({ x with acks := L, commit := max x.commit (commitOf L) } : Nod) with told := [] } : Nod) := by
    unfold Nod.acked
    show (⟨x.id, x.n, x.view, x.last, x.works, max x.commit (commitOf L), x.log, L.set m.f1.toNat (max (L.getD m.f1.toNat 0) (min m.f6 (x.log.length : Int))), x.votes, []⟩ : Nod) = ⟨x.id, x.n, x.view, x.last, x.works, max x.commit (commitOf L), x.log, L, x.votes, []⟩
    have hg : L.getD m.f1.toNat 0 = max (x.acks.getD m.f1.toNat 0) (min m.f6 (x.log.length : Int)) := by
      rw [List.getD_eq_getElem?_getD, e1]; rfl
    rw [hg]
    have : max (max (x.acks.getD m.f1.toNat 0) (min m.f6 (x.log.length : Int))) (min m.f6 (x.log.length : Int)) = max (x.acks.getD m.f1.toNat 0) (min m.f6 (x.log.length : Int)) := by omega
    rw [this, set_self e1]
  rw [h3]
  unfold Nod.counts Nod.count
  have hl2 : (({ ({ x with acks := L, commit := max x.commit (commitOf L) } : Nod) with told := [] } : Nod)).leads = true := hl
  rw [if_pos hl2]
  show (⟨x.id, x.n, x.view, x.last, x.works, max (max x.commit (commitOf L)) (commitOf (L.set x.id.toNat (x.log.length : Int))), x.log, L.set x.id.toNat (x.log.length : Int), x.votes, []⟩ : Nod) = ⟨x.id, x.n, x.view, x.last, x.works, max x.commit (commitOf L), x.log, L, x.votes, []⟩
  rw [set_self e2]
  have : max (max x.commit (commitOf L)) (commitOf L) = max x.commit (commitOf L) := by omega
  rw [this]
theorem ack_twice {x : Nod} (h : Right x) (m : S28) (hf : For x m) : Alike9 ({ x.ack m with told := [] } : Nod) (Nod.ack { x.ack m with told := [] } m) := by
  have hr := msgB_range hf.may
  have h7 := h.n7
  have hi0 := h.id0
  have hi1 := h.id1
  have hac := h.acks
  have hsrc := hf.src
  have hoth := hf.other
  by_cases hc : x.leads = true ∧ m.f3 ≤ x.view
  · have hcore := ack_core x m hc.1 (by omega) (by omega) (by omega)
    have hs := counts_same (x.acked m)
    have e : ({ x.ack m with told := [] } : Nod) = ({ (x.acked m).counts with told := [] } : Nod) := by
      unfold Nod.ack
      rw [if_pos hc]
      split <;> rfl
    rw [e]
    have hl2 : ({ (x.acked m).counts with told := [] } : Nod).leads = true := by
      show ((x.acked m).counts.works && ((x.acked m).counts.view % (x.acked m).counts.n == (x.acked m).counts.id)) = true
      rw [hs.2.2.2.2.1, hs.2.2.1, hs.2.1, hs.1]
      exact hc.1
    have hv2 : m.f3 ≤ ({ (x.acked m).counts with told := [] } : Nod).view := by
      show m.f3 ≤ (x.acked m).counts.view
      rw [hs.2.2.1]; exact hc.2
    generalize ({ (x.acked m).counts with told := [] } : Nod) = u at *
    unfold Nod.ack
    rw [if_pos ⟨hl2, hv2⟩, hcore]
    split <;> rfl
  · have e : x.ack m = x := by unfold Nod.ack; rw [if_neg hc]
    rw [e]
    have e2 : Nod.ack { x with told := [] } m = { x with told := [] } := if_neg hc
    rw [e2]
    rfl
theorem voteOf_ok {x : Nod} {m : S28} (hf : For x m) (hk : m.f0 = 3) (v : Int) (hv : m.f3 ≤ v) : VoteOk x.n v (voteOf m) := by
  have hr := msgB_range hf.may
  have h3 := msgB_three hf.may hk
  have hs := hf.src
  exact ⟨hr.1.1, by show m.f1 ≤ x.n - 1; omega, h3.2.1, by show m.f4 ≤ v; omega, h3.1⟩
theorem voted_steps {y : Nod} (h : Right y) (ht : y.told = []) (m : S28) (hf : For y m) (hk : m.f0 = 3) (hv : m.f3 = y.view) : Fine y (y.votedFor m) ∧ (y.votedFor m).view = y.view ∧ y.last ≤ (y.votedFor m).last := by
  have ha := h.add (voteOf m) (voteOf_ok hf hk y.view (by omega))
  obtain ⟨hb, h1, h2⟩ := ha.begins ht
  exact ⟨⟨hb.right, hb.told, hb.id, hb.n⟩, h1, h2⟩
theorem vote_steps {x : Nod} (h : Right x) (ht : x.told = []) (m : S28) (hf : For x m) (hk : m.f0 = 3) (hv : x.view ≤ m.f3) : Steps x m (x.vote m) ∧ (x.vote m).view ≤ m.f3 := by
  have hr := msgB_range hf.may
  unfold Nod.vote
  split
  · split
    · rename_i hgt
      have hj := h.joins m.f3 hv hr.2.2.2
      obtain ⟨k1, k2, k3⟩ := voted_steps hj (show x.told = [] from ht) m (hf.same rfl rfl) hk rfl
      exact ⟨⟨⟨k1.right, k1.told, k1.id, k1.n⟩, by rw [k2]; exact hv, k3⟩, by rw [k2]; exact Int.le_refl _⟩
    · rename_i hgt
      have he : m.f3 = x.view := by omega
      split
      · exact ⟨⟨(Fine.of h ht).say _ (h.prep m.f1 hr.1.1 hf.src hf.other), Int.le_refl _, Int.le_refl _⟩, hv⟩
      · obtain ⟨k1, k2, k3⟩ := voted_steps h ht m hf hk he
        exact ⟨⟨k1, by rw [k2]; exact Int.le_refl _, k3⟩, by rw [k2]; exact hv⟩
  · exact ⟨⟨Fine.of h ht, Int.le_refl _, Int.le_refl _⟩, hv⟩
theorem addTo_twice (l : List S66) (v : S66) : addTo (addTo l v) v = addTo l v := by
  unfold addTo
  rw [List.filter_append, List.filter_filter]
  simp
theorem voted_twice (y : Nod) (m : S28) (hp : y.prim m.f3 = true) (hv : m.f3 = y.view) (hw : y.works = false) : Alike9 ({ y.votedFor m with told := [] } : Nod) (Nod.vote { y.votedFor m with told := [] } m) := by
  have e0 : y.votedFor m = Nod.begin_ { y with votes := addTo y.votes (voteOf m) } := rfl
  by_cases hm : ({ y with votes := addTo y.votes (voteOf m) } : Nod).may = true
  · have hs := counts_same ({ y with votes := addTo y.votes (voteOf m) } : Nod).rise.clear
    have e1 : y.votedFor m = ({ y with votes := addTo y.votes (voteOf m) } : Nod).rise.clear.counts.tell := by rw [e0]; unfold Nod.begin_; rw [if_pos hm]
    have hid : (y.votedFor m).id = y.id := by rw [e1]; exact hs.1
    have hn : (y.votedFor m).n = y.n := by rw [e1]; exact hs.2.1
    have hvw : (y.votedFor m).view = y.view := by rw [e1]; exact hs.2.2.1
    have hwk : (y.votedFor m).works = true := by rw [e1]; exact hs.2.2.2.2.1
    generalize y.votedFor m = u at *
    unfold Nod.vote
    rw [if_pos (show ({ u with told := [] } : Nod).prim m.f3 = true by show (m.f3 % u.n == u.id) = true; rw [hid, hn]; exact hp), if_neg (show ¬ m.f3 > u.view by omega), if_pos (show u.works = true from hwk)]
    rfl
  · have e1 : y.votedFor m = { y with votes := addTo y.votes (voteOf m) } := by rw [e0]; unfold Nod.begin_; rw [if_neg hm]
    rw [e1]
    have e2 : Nod.vote ({ ({ y with votes := addTo y.votes (voteOf m) } : Nod) with told := [] } : Nod) m = Nod.votedFor ({ ({ y with votes := addTo y.votes (voteOf m) } : Nod) with told := [] } : Nod) m := by
      unfold Nod.vote
      rw [if_pos (show ({ ({ y with votes := addTo y.votes (voteOf m) } : Nod) with told := [] } : Nod).prim m.f3 = true from hp), if_neg (show ¬ m.f3 > y.view by omega), if_neg (show ¬ y.works = true by rw [hw]; simp)]
    have e3 : Nod.votedFor ({ ({ y with votes := addTo y.votes (voteOf m) } : Nod) with told := [] } : Nod) m = ({ ({ y with votes := addTo y.votes (voteOf m) } : Nod) with told := [] } : Nod) := by
      show Nod.begin_ ({ y with votes := addTo (addTo y.votes (voteOf m)) (voteOf m), told := [] } : Nod) = _
      rw [addTo_twice]
      unfold Nod.begin_
      rw [if_neg (show ¬ ({ y with votes := addTo y.votes (voteOf m), told := [] } : Nod).may = true from hm)]
    rw [e2, e3]
    rfl
theorem vote_twice {x : Nod} (h : Right x) (m : S28) (hv : x.view ≤ m.f3) : Alike9 ({ x.vote m with told := [] } : Nod) (Nod.vote { x.vote m with told := [] } m) := by
  by_cases hp : x.prim m.f3 = true
  · by_cases hgt : m.f3 > x.view
    · have e : x.vote m = (x.joins m.f3).votedFor m := by unfold Nod.vote; rw [if_pos hp, if_pos hgt]
      rw [e]
      exact voted_twice (x.joins m.f3) m hp rfl rfl
    · have he : m.f3 = x.view := by omega
      cases hw : x.works with
      | true =>
        have e : x.vote m = x.say (x.prep m.f1) := by unfold Nod.vote; rw [if_pos hp, if_neg hgt, if_pos hw]
        rw [e]
        have e2 : Nod.vote ({ x.say (x.prep m.f1) with told := [] } : Nod) m = ({ x.say (x.prep m.f1) with told := [] } : Nod).say (({ x.say (x.prep m.f1) with told := [] } : Nod).prep m.f1) :=
          (if_pos (show ({ x.say (x.prep m.f1) with told := [] } : Nod).prim m.f3 = true from hp)).trans ((if_neg (show ¬ m.f3 > x.view from hgt)).trans (if_pos (show x.works = true from hw)))
        rw [e2]
        rfl
      | false =>
        have e : x.vote m = x.votedFor m := by unfold Nod.vote; rw [if_pos hp, if_neg hgt, if_neg (by rw [hw]; simp)]
        rw [e]
        exact voted_twice x m hp he hw
  · have e : x.vote m = x := by unfold Nod.vote; rw [if_neg hp]
    rw [e]
    have e2 : Nod.vote ({ x with told := [] } : Nod) m = { x with told := [] } := if_neg hp
    rw [e2]
    rfl
theorem step_steps {x : Nod} (h : Right x) (m : S28) (hf : For x m) : Steps x m (stepOf x m) ∧ (x.view ≤ m.f3 → (stepOf x m).view ≤ m.f3) := by
  have ho := h.opened
  have hx : Right x.opened := by rw [ho]; exact h.told _
  have ht : x.opened.told = [] := by rw [ho]
  have hfo : For x.opened m := hf.same (by rw [ho]) (by rw [ho])
  have hid : x.opened.id = x.id := by rw [ho]
  have hn : x.opened.n = x.n := by rw [ho]
  have hvw : x.opened.view = x.view := by rw [ho]
  have hla : x.opened.last = x.last := by rw [ho]
  have conv : ∀ {u : Nod}, Steps x.opened m u → Steps x m u := fun s => ⟨⟨s.fine.right, s.fine.told, s.fine.id.trans hid, s.fine.n.trans hn⟩, by rw [← hvw]; exact s.view, by rw [← hla]; exact s.last⟩
  unfold stepOf
  split
  · rename_i hge
    have hv : x.opened.view ≤ m.f3 := by rw [hvw]; omega
    split
    · rename_i hk
      refine ⟨conv (prepare_steps hx ht m hfo hk hv), fun _ => ?_⟩
      unfold Nod.prepare
      split
      · exact Int.le_of_eq (hx.takes m hf.may hk hv).2.1
      · exact hv
    · split
      · rename_i hk
        obtain ⟨k1, k2⟩ := ack_steps hx ht m hfo hk hv
        exact ⟨conv k1, fun _ => by rw [k2]; exact hv⟩
      · have hk : m.f0 = 3 := by rcases msg_kind hf.may with h | h | h <;> first | exact absurd h ‹_› | exact h
        obtain ⟨k1, k2⟩ := vote_steps hx ht m hfo hk hv
        exact ⟨conv k1, fun _ => k2⟩
  · exact ⟨conv ⟨Fine.of hx ht, Int.le_refl _, Int.le_refl _⟩, fun hv => by rw [hvw]; exact hv⟩
theorem step_twice {x : Nod} (h : Right x) (m : S28) (hf : For x m) : Alike9 (stepOf x m) (stepOf (stepOf x m) m) := by
  have hs := (step_steps h m hf)
  have hu := hs.1.fine.right.opened
  have ho := h.opened
  have hx : Right x.opened := by rw [ho]; exact h.told _
  have hfo : For x.opened m := hf.same (by rw [ho]) (by rw [ho])
  have hvw : x.opened.view = x.view := by rw [ho]
  by_cases hge : m.f3 ≥ x.view
  · have hge2 : m.f3 ≥ (stepOf x m).view := hs.2 hge
    have e1 : stepOf (stepOf x m) m = (if m.f0 = 1 then (stepOf x m).opened.prepare m else if m.f0 = 2 then (stepOf x m).opened.ack m else (stepOf x m).opened.vote m) := if_pos hge2
    rw [e1, hu]
    have e2 : stepOf x m = (if m.f0 = 1 then x.opened.prepare m else if m.f0 = 2 then x.opened.ack m else x.opened.vote m) := if_pos hge
    rw [e2]
    by_cases h1 : m.f0 = 1
    · rw [if_pos h1, if_pos h1]
      exact prepare_twice hx m hf.may h1 (by rw [hvw]; omega)
    · rw [if_neg h1, if_neg h1]
      by_cases h2 : m.f0 = 2
      · rw [if_pos h2, if_pos h2]
        exact ack_twice hx m hfo
      · rw [if_neg h2, if_neg h2]
        exact vote_twice hx m (by rw [hvw]; omega)
  · have e2 : stepOf x m = x.opened := if_neg hge
    have e1 : stepOf (stepOf x m) m = (stepOf x m).opened := if_neg (by rw [e2, hvw]; exact hge)
    rw [e1, hu]
    rfl
theorem restart_steps {x : Nod} (h : Right x) (ht : x.told = []) : Right x.restart ∧ x.restart.told = [] ∧ x.restart.id = x.id ∧ x.restart.n = x.n ∧ x.restart.view = x.view ∧ x.restart.last = x.last ∧ x.restart.works = x.works ∧ x.restart.log = x.log ∧ x.commit ≤ x.restart.commit := by
  have hc := h.clear.counts
  have hs := counts_same x.clear
  unfold Nod.restart
  split
  · exact ⟨hc.1, by rw [hs.2.2.2.2.2.2.2]; exact ht, hs.1, hs.2.1, hs.2.2.1, hs.2.2.2.1, hs.2.2.2.2.1, hs.2.2.2.2.2.1, hc.2⟩
  · have hv := hc.1.add x.clear.counts.ownVote hc.1.ownVote
    have e : x.clear.counts.votes = [] := hs.2.2.2.2.2.2.1
    rw [e] at hv
    exact ⟨hv, by show x.clear.counts.told = []; rw [hs.2.2.2.2.2.2.2]; exact ht, hs.1, hs.2.1, hs.2.2.1, hs.2.2.2.1, hs.2.2.2.2.1, hs.2.2.2.2.2.1, hc.2⟩
theorem clear_counts_twice (x : Nod) (h1 : x.id.toNat < x.n.toNat) : x.clear.counts.clear.counts = x.clear.counts := by
  by_cases hl : x.leads = true
  · have e : x.clear.counts = { x with acks := ((List.replicate x.n.toNat (0 : Int)).set x.id.toNat (x.log.length : Int)), votes := [], commit := max x.commit (commitOf ((List.replicate x.n.toNat (0 : Int)).set x.id.toNat (x.log.length : Int))) } := if_pos (show x.clear.leads = true from hl)
    have hs := counts_same x.clear
    have hl2 : x.clear.counts.leads = true := by
      show (x.clear.counts.works && (x.clear.counts.view % x.clear.counts.n == x.clear.counts.id)) = true
      rw [hs.2.2.2.2.1, hs.2.2.1, hs.2.1, hs.1]
      exact hl
    have e2 : ∀ y : Nod, y.leads = true → y.clear.counts = { y with acks := ((List.replicate y.n.toNat (0 : Int)).set y.id.toNat (y.log.length : Int)), votes := [], commit := max y.commit (commitOf ((List.replicate y.n.toNat (0 : Int)).set y.id.toNat (y.log.length : Int))) } := fun y hy => if_pos (show y.clear.leads = true from hy)
    rw [e2 x.clear.counts hl2, e]
    have : max (max x.commit (commitOf ((List.replicate x.n.toNat (0 : Int)).set x.id.toNat (x.log.length : Int)))) (commitOf ((List.replicate x.n.toNat (0 : Int)).set x.id.toNat (x.log.length : Int))) = max x.commit (commitOf ((List.replicate x.n.toNat (0 : Int)).set x.id.toNat (x.log.length : Int))) := by omega
    simp only [this]
  · have e : x.clear.counts = x.clear := if_neg (show ¬ x.clear.leads = true from hl)
    rw [e]
    exact if_neg (show ¬ x.clear.clear.leads = true from hl)
theorem restart_twice {x : Nod} (h : Right x) : x.restart.restart = x.restart := by
  have hi0 := h.id0
  have hi1 := h.id1
  have hs := counts_same x.clear
  cases hw : x.works with
  | true =>
    have e : x.restart = x.clear.counts := if_pos hw
    rw [e]
    have e2 : x.clear.counts.restart = x.clear.counts.clear.counts := if_pos (by rw [hs.2.2.2.2.1]; exact hw)
    rw [e2]
    exact clear_counts_twice x (by omega)
  | false =>
    have hl : ¬ x.clear.leads = true := by
      show ¬ (x.works && _) = true
      rw [hw]; simp
    have ec : x.clear.counts = x.clear := if_neg hl
    have e : x.restart = ({ x.clear with votes := [x.clear.ownVote] } : Nod) := by
      have e1 : x.restart = x.waits := if_neg (by rw [hw]; simp)
      rw [e1]
      unfold Nod.waits
      rw [ec]
      rfl
    rw [e]
    have e3 : Nod.restart ({ x.clear with votes := [x.clear.ownVote] } : Nod) = Nod.waits ({ x.clear with votes := [x.clear.ownVote] } : Nod) := if_neg (by show ¬ x.works = true; rw [hw]; simp)
    rw [e3]
    unfold Nod.waits
    have e4 : (({ x.clear with votes := [x.clear.ownVote] } : Nod).clear.counts) = x.clear := if_neg (by show ¬ (x.works && _) = true; rw [hw]; simp)
    rw [e4]
    rfl
end Go.Proofs.Ytfpfpckocemmdaa.P
end
section
set_option linter.unusedVariables false
set_option linter.unusedSimpArgs false
namespace Go.Proofs.Ytfpfpckocemmdaa.Spec
open Go.RowKit Go.Proofs.YtfpfpckocemmdaaW.PrintWords Go.Proofs.YtfpfpckocemmdaaW.PrintLast Go.Proofs.YtfpfpckocemmdaaW.PrintMore Go.Proofs.Ytfpfpckocemmdaa.P
theorem wrap_nat (i : Nat) (h : i < 9223372036854775807) : wrap64 ((i : Int) + 1) = ((i + 1 : Nat) : Int) := by unfold wrap64; omega
theorem rd66_nat (l : List S66) (i : Nat) (h : i < l.length) : rd_T66 l (i : Int) = l[i] := by
  unfold rd_T66
  simp [List.getD_eq_getElem?_getD, List.getElem?_eq_getElem h]
theorem rdS_nat (l : List ByteArray) (i : Nat) (h : i < l.length) : rdOf ByteArray.empty l (i : Int) = l[i] := by
  unfold rdOf
  simp [List.getD_eq_getElem?_getD, List.getElem?_eq_getElem h]
theorem texts_loop (a : List ByteArray) (hm : a.length ≤ 9223372036854775807) (d : Nat) : ∀ (k i : Nat), a.length - i = d → i ≤ a.length → d < k → sextonref01_Texts.l0 k a a (i : Int) = some true := by
  induction d with
  | zero =>
    intro k i hd hi hk
    obtain ⟨k, rfl⟩ : ∃ m, k = m + 1 := ⟨k - 1, by omega⟩
    simp only [sextonref01_Texts.l0]
    rw [if_neg (by omega)]
  | succ d ih =>
    intro k i hd hi hk
    obtain ⟨k, rfl⟩ : ∃ m, k = m + 1 := ⟨k - 1, by omega⟩
    simp only [sextonref01_Texts.l0]
    rw [if_pos (by omega), if_pos (by omega), if_pos (by omega), if_pos trivial, wrap_nat i (by omega), ih k (i + 1) (by omega) (by omega) (by omega)]
theorem texts_self (a : List ByteArray) (hm : a.length ≤ 9223372036854775807) (k : Nat) (hk : a.length < k) : sextonref01_Texts.f k a a = some true := by
  simp only [sextonref01_Texts.f]
  rw [if_pos trivial]
  exact texts_loop a hm a.length k 0 (by omega) (by omega) hk
theorem ints_loop (a : List Int) (hm : a.length ≤ 9223372036854775807) (d : Nat) : ∀ (k i : Nat), a.length - i = d → i ≤ a.length → d < k → sextonref01_Ints.l0 k a a (i : Int) = some true := by
  induction d with
  | zero =>
    intro k i hd hi hk
    obtain ⟨k, rfl⟩ : ∃ m, k = m + 1 := ⟨k - 1, by omega⟩
    simp only [sextonref01_Ints.l0]
    rw [if_neg (by omega)]
  | succ d ih =>
    intro k i hd hi hk
    obtain ⟨k, rfl⟩ : ∃ m, k = m + 1 := ⟨k - 1, by omega⟩
    simp only [sextonref01_Ints.l0]
    rw [if_pos (by omega), if_pos (by omega), if_pos (by omega), if_pos trivial, wrap_nat i (by omega), ih k (i + 1) (by omega) (by omega) (by omega)]
theorem ints_self (a : List Int) (hm : a.length ≤ 9223372036854775807) (k : Nat) (hk : a.length < k) : sextonref01_Ints.f k a a = some true := by
  simp only [sextonref01_Ints.f]
  rw [if_pos trivial]
  exact ints_loop a hm a.length k 0 (by omega) (by omega) hk
theorem votes_loop (a : List S66) (hm : a.length ≤ 9223372036854775807) (B : Nat) (hB : B ≤ 9223372036854775807) (hv : ∀ v, v ∈ a → v.f3.length ≤ B) (d : Nat) : ∀ (k i : Nat), a.length - i = d → i ≤ a.length → d + B + 1 < k → sextonref22_Same.l0 k a a (i : Int) = some true := by
  induction d with
  | zero =>
    intro k i hd hi hk
    obtain ⟨k, rfl⟩ : ∃ m, k = m + 1 := ⟨k - 1, by omega⟩
    simp only [sextonref22_Same.l0]
    rw [if_neg (by omega)]
  | succ d ih =>
    intro k i hd hi hk
    obtain ⟨k, rfl⟩ : ∃ m, k = m + 1 := ⟨k - 1, by omega⟩
    have hi' : i < a.length := by omega
    have hl := hv _ (List.getElem_mem hi')
    simp only [sextonref22_Same.l0]
    rw [if_pos (by omega), if_pos (by omega), if_pos (by omega), rd66_nat a i hi']
    simp only [sextonref22_SameVote.f]
    rw [if_pos trivial, if_pos trivial, if_pos trivial, texts_self _ (by omega) k (by omega)]
    simp only [Option.bind_some]
    rw [if_pos trivial, wrap_nat i (by omega), ih k (i + 1) (by omega) (by omega) (by omega)]
theorem votes_self (a : List S66) (hm : a.length ≤ 9223372036854775807) (B : Nat) (hB : B ≤ 9223372036854775807) (hv : ∀ v, v ∈ a → v.f3.length ≤ B) (k : Nat) (hk : a.length + B + 1 < k) : sextonref22_Same.f k a a = some true := by
  simp only [sextonref22_Same.f]
  rw [if_pos trivial]
  exact votes_loop a hm B hB hv a.length k 0 (by omega) (by omega) hk
theorem node_self (a0 a1 a2 a3 : Int) (a4 : Bool) (a5 : Int) (l6 : List ByteArray) (l7 : List Int) (l8 : List S66) (B : Nat) (hB : B ≤ 1000000) (h6 : l6.length ≤ B) (h7 : l7.length ≤ B) (h8 : l8.length ≤ B) (hv : ∀ v, v ∈ l8 → v.f3.length ≤ B) (k : Nat) (hk : B + B + 1 < k) :
    sextonref24_Same.f k a0 a1 a2 a3 a4 a5 l6 l7 l8 a0 a1 a2 a3 a4 a5 l6 l7 l8 = some true := by
  simp only [sextonref24_Same.f]
  rw [if_pos trivial, if_pos trivial, if_pos trivial, if_pos trivial, if_pos (by simp), if_pos trivial, texts_self l6 (by omega) k (by omega)]
  simp only [Option.bind_some]
  rw [if_pos trivial, ints_self l7 (by omega) k (by omega)]
  simp only [Option.bind_some]
  rw [if_pos trivial, votes_self l8 (by omega) B (by omega) hv k (by omega)]
  rfl
theorem short_loop (a : List ByteArray) (hm : a.length ≤ 9223372036854775807) (d : Nat) : ∀ (k i : Nat), a.length - i = d → i ≤ a.length → d < k → sextonref01_Short.l0 k a (i : Int) = some ((a.drop i).all fun s => decide ((s.size : Int) ≤ 300)) := by
  induction d with
  | zero =>
    intro k i hd hi hk
    obtain ⟨k, rfl⟩ : ∃ m, k = m + 1 := ⟨k - 1, by omega⟩
    simp only [sextonref01_Short.l0]
    rw [if_neg (by omega), List.drop_eq_nil_of_le (by omega)]
    rfl
  | succ d ih =>
    intro k i hd hi hk
    obtain ⟨k, rfl⟩ : ∃ m, k = m + 1 := ⟨k - 1, by omega⟩
    have hi' : i < a.length := by omega
    simp only [sextonref01_Short.l0]
    rw [if_pos (by omega), if_pos (by omega), rdS_nat a i hi', wrap_nat i (by omega), ih k (i + 1) (by omega) (by omega) (by omega), List.drop_eq_getElem_cons hi', List.all_cons]
    by_cases h : (a[i].size : Int) > 300
    · rw [if_pos h, decide_eq_false (by omega)]; rfl
    · rw [if_neg h, decide_eq_true (by omega)]; rfl
theorem short_of (a : List ByteArray) (hm : a.length ≤ 9223372036854775807) (k : Nat) (hk : a.length < k) : sextonref01_Short.f k a = some (a.all fun s => decide ((s.size : Int) ≤ 300)) := by
  simp only [sextonref01_Short.f]
  exact short_loop a hm a.length k 0 (by omega) (by omega) hk
def bigV (v : S66) : Bool := !(v.f3.all fun s => decide ((s.size : Int) ≤ 300)) || decide ((v.f3.length : Int) > 70)
def bigVs (a : List S66) : Bool := if (a.length : Int) ≤ 30 then a.any bigV else true
theorem big22_loop (a : List S66) (hm : a.length ≤ 30) (B : Nat) (hB : B ≤ 9223372036854775807) (hv : ∀ v, v ∈ a → v.f3.length ≤ B) (d : Nat) : ∀ (k i : Nat), a.length - i = d → i ≤ a.length → 2 * d + B + 2 < k → sextonref22_Big.l0 k a (i : Int) = some ((a.drop i).any bigV) := by
  induction d with
  | zero =>
    intro k i hd hi hk
    obtain ⟨k, rfl⟩ : ∃ m, k = m + 2 := ⟨k - 2, by omega⟩
    simp only [sextonref22_Big.l0]
    rw [if_neg (by omega), List.drop_eq_nil_of_le (by omega)]
    simp only [sextonref22_Big.j1]
    rw [if_neg (by simp), decide_eq_false (by omega)]
    rfl
  | succ d ih =>
    intro k i hd hi hk
    obtain ⟨k, rfl⟩ : ∃ m, k = m + 1 := ⟨k - 1, by omega⟩
    have hi' : i < a.length := by omega
    have hl := hv _ (List.getElem_mem hi')
    simp only [sextonref22_Big.l0]
    rw [if_pos (by omega), decide_eq_true (by omega)]
    obtain ⟨k, rfl⟩ : ∃ m, k = m + 1 := ⟨k - 1, by omega⟩
    simp only [sextonref22_Big.j1]
    rw [if_pos trivial, if_pos (by omega), if_pos (by omega), rd66_nat a i hi', short_of _ (by omega) k (by omega), wrap_nat i (by omega), ih k (i + 1) (by omega) (by omega) (by omega), List.drop_eq_getElem_cons hi', List.any_cons]
    simp only [Option.bind_some]
    cases hs : a[i].f3.all (fun s => decide ((s.size : Int) ≤ 300)) with
    | false =>
      rw [if_neg (by simp)]
      simp [bigV, hs]
    | true =>
      rw [if_pos rfl]
      by_cases h : (a[i].f3.length : Int) > 70
      · rw [if_pos h]; simp only [bigV, hs, decide_eq_true h]; rfl
      · rw [if_neg h]; simp only [bigV, hs, decide_eq_false h]; rfl
theorem big22_of (a : List S66) (hm : a.length ≤ 9223372036854775807) (B : Nat) (hB : B ≤ 9223372036854775807) (hv : ∀ v, v ∈ a → v.f3.length ≤ B) (k : Nat) (hk : 64 + B < k) : sextonref22_Big.f k a = some (bigVs a) := by
  simp only [sextonref22_Big.f]
  unfold bigVs
  by_cases h : (a.length : Int) ≤ 30
  · rw [if_pos h]
    exact big22_loop a (by omega) B hB hv a.length k 0 (by omega) (by omega) (by omega)
  · rw [if_neg h]
    obtain ⟨k, rfl⟩ : ∃ m, k = m + 2 := ⟨k - 2, by omega⟩
    simp only [sextonref22_Big.l0]
    rw [if_pos (by omega), decide_eq_false (by omega)]
    simp only [sextonref22_Big.j1]
    rw [if_neg (by simp), decide_eq_true (by omega)]
def bigM (l : List ByteArray) : Bool := if (l.length : Int) ≤ 80 then l.any (fun s => decide ((s.size : Int) > 400)) else true
theorem big23_loop (a0 a1 a2 a3 a4 a5 a6 : Int) (a : List ByteArray) (hm : a.length ≤ 80) (d : Nat) : ∀ (k i : Nat), a.length - i = d → i ≤ a.length → 2 * d + 2 < k → sextonref23_Big.l0 k (i : Int) a0 a1 a2 a3 a4 a5 a6 a = some ((a.drop i).any fun s => decide ((s.size : Int) > 400)) := by
  induction d with
  | zero =>
    intro k i hd hi hk
    obtain ⟨k, rfl⟩ : ∃ m, k = m + 2 := ⟨k - 2, by omega⟩
    simp only [sextonref23_Big.l0]
    rw [if_neg (by omega), List.drop_eq_nil_of_le (by omega)]
    simp only [sextonref23_Big.j1]
    rw [if_neg (by simp), decide_eq_false (by omega)]
    rfl
  | succ d ih =>
    intro k i hd hi hk
    obtain ⟨k, rfl⟩ : ∃ m, k = m + 1 := ⟨k - 1, by omega⟩
    have hi' : i < a.length := by omega
    simp only [sextonref23_Big.l0]
    rw [if_pos (by omega), decide_eq_true (by omega)]
    obtain ⟨k, rfl⟩ : ∃ m, k = m + 1 := ⟨k - 1, by omega⟩
    simp only [sextonref23_Big.j1]
    rw [if_pos trivial, if_pos (by omega), if_pos (by omega), rdS_nat a i hi', wrap_nat i (by omega), ih k (i + 1) (by omega) (by omega) (by omega), List.drop_eq_getElem_cons hi', List.any_cons]
    by_cases h : (a[i].size : Int) > 400
    · rw [if_pos h, decide_eq_true h]; rfl
    · rw [if_neg h, decide_eq_false h]; rfl
theorem big23_of (a0 a1 a2 a3 a4 a5 a6 : Int) (a : List ByteArray) (k : Nat) (hk : 170 < k) : sextonref23_Big.f k a0 a1 a2 a3 a4 a5 a6 a = some (bigM a) := by
  simp only [sextonref23_Big.f]
  unfold bigM
  by_cases h : (a.length : Int) ≤ 80
  · rw [if_pos h]
    exact big23_loop a0 a1 a2 a3 a4 a5 a6 a (by omega) a.length k 0 (by omega) (by omega) (by omega)
  · rw [if_neg h]
    obtain ⟨k, rfl⟩ : ∃ m, k = m + 2 := ⟨k - 2, by omega⟩
    simp only [sextonref23_Big.l0]
    rw [if_pos (by omega), decide_eq_false (by omega)]
    simp only [sextonref23_Big.j1]
    rw [if_neg (by simp), decide_eq_true (by omega)]
def farB (l6 : List ByteArray) (l7 : List Int) (l8 : List S66) (m7 : List ByteArray) (s : ByteArray) : Bool := bigVs [⟨0, 0, 0, l6⟩] || (bigVs l8 || (decide ((l7.length : Int) > 30) || (bigM m7 || decide ((s.size : Int) > 400))))
theorem far_of (a0 a1 a2 a3 : Int) (a4 : Bool) (a5 : Int) (l6 : List ByteArray) (l7 : List Int) (l8 : List S66) (b0 b1 b2 b3 b4 b5 b6 : Int) (m7 : List ByteArray) (s : ByteArray) (B : Nat) (hB : B ≤ 9223372036854775807) (h6 : l6.length ≤ B) (h8 : l8.length ≤ 9223372036854775807) (hv : ∀ v, v ∈ l8 → v.f3.length ≤ B) (k : Nat) (hk : 171 + B < k) :
    sextonlaw24_far.f k a0 a1 a2 a3 a4 a5 l6 l7 l8 b0 b1 b2 b3 b4 b5 b6 m7 s = some (farB l6 l7 l8 m7 s) := by
  have e1 : sextonref22_Big.f k [⟨0, 0, 0, l6⟩] = some (bigVs [⟨0, 0, 0, l6⟩]) := big22_of _ (by simp) B hB (by intro v hv; simp at hv; subst hv; exact h6) k (by omega)
  have e2 := big22_of l8 h8 B hB hv k (by omega)
  have e3 := big23_of b0 b1 b2 b3 b4 b5 b6 m7 k (by omega)
  simp only [sextonlaw24_far.f, sextonref24_Big.f, e1, e2, e3, Option.bind_some]
  unfold farB
  cases bigVs [⟨0, 0, 0, l6⟩] with
  | true => simp
  | false =>
    cases bigVs l8 with
    | true => simp
    | false =>
      by_cases h7 : (l7.length : Int) > 30
      · simp [h7]
      · cases bigM m7 <;> simp [h7]
structure Small (l6 : List ByteArray) (l7 : List Int) (l8 : List S66) (m7 : List ByteArray) (s : ByteArray) : Prop where
  log : l6.length ≤ 70
  acks : l7.length ≤ 30
  votes : l8.length ≤ 30
  each : ∀ v, v ∈ l8 → v.f3.length ≤ 70
  msg : m7.length ≤ 80
  text : s.size ≤ 400
theorem bigVs_not {a : List S66} (h : bigVs a = false) : a.length ≤ 30 ∧ ∀ v, v ∈ a → v.f3.length ≤ 70 := by
  unfold bigVs at h
  split at h
  · refine ⟨by omega, fun v hv => ?_⟩
    have h2 := List.any_eq_false.1 h v hv
    simp only [bigV, Bool.or_eq_true, decide_eq_true_eq, not_or] at h2
    omega
  · cases h
theorem far_not {l6 : List ByteArray} {l7 : List Int} {l8 : List S66} {m7 : List ByteArray} {s : ByteArray} (h : farB l6 l7 l8 m7 s = false) : Small l6 l7 l8 m7 s := by
  unfold farB at h
  simp only [Bool.or_eq_false_iff, decide_eq_false_iff_not] at h
  obtain ⟨h1, h2, h3, h4, h5⟩ := h
  have k1 := (bigVs_not h1).2 ⟨0, 0, 0, l6⟩ (by simp)
  have k2 := bigVs_not h2
  refine ⟨k1, by omega, k2.1, k2.2, ?_, by omega⟩
  unfold bigM at h4
  split at h4
  · omega
  · cases h4
theorem Small.fits {l6 : List ByteArray} {l7 : List Int} {l8 : List S66} {m7 : List ByteArray} {s : ByteArray} (h : Small l6 l7 l8 m7 s) (hw : ∀ v, v ∈ l8 → (Lit.int .i64 v.f0).wf = true) : fitB l6 l7 l8 = true := by
  unfold fitB
  have h1 := h.log
  have h2 := h.acks
  have h3 := h.votes
  simp only [Bool.and_eq_true, decide_eq_true_eq, List.all_eq_true]
  exact ⟨⟨⟨by omega, by omega⟩, by omega⟩, fun v hv => ⟨by have := h.each v hv; omega, hw v hv⟩⟩
end Go.Proofs.Ytfpfpckocemmdaa.Spec
end
