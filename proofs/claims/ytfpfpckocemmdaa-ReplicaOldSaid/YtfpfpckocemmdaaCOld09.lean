/- Part 9 of the walk. -/
import Derived.Test.YtfpfpckocemmdaaCOld08
import Derived.ProofKit
import Derived.OpenShut
import Derived.ShutString
import Derived.ChangeOld
import Derived.SizedLaws
import Derived.Deep.Slices
import Derived.ChangeArms
section
namespace Go.Proofs.Ytfpfpckocemmdaa.P
open Go.RowKit Go.Proofs.YtfpfpckocemmdaaW.PrintWords Go.Proofs.YtfpfpckocemmdaaW.PrintLast Go.Proofs.YtfpfpckocemmdaaW.PrintMore
attribute [local go_sem] max2_int min2_int max_two min_two max_three min_three max_four min_four
set_option linter.unusedVariables false
set_option linter.unusedSimpArgs false
def wk_T6 : Bool × List (List Nat × List Nat) := (true, [([], []), ([], []), ([1], [1]), ([2], [2]), ([0, 3], [0, 3]), ([4], [4]), ([5], [5]), ([5], [5]), ([5], [5]), ([], []), ([9, 6, 4, 0, 1, 2, 3, 4, 5, 6, 9], [6, 9]), ([7, 10, 0, 1, 2, 3, 4, 5, 6, 7, 9, 10], [7]), ([8, 11, 0, 1, 2, 3, 4, 5, 6, 7, 8, 9, 10, 11], [8])])
def wk_B6 : List Nat := [0, 0, 2, 6, 15, 31, 63, 63, 63, 0, 639, 1791, 4095]
theorem wk_tab6 : rtab .any (opsOf Try.f9 6) = wk_T6 := by kernel_rfl
theorem wk_bits6 : waitsOk wk_T6.2 wk_B6 = true := by kernel_rfl
def wk_T9 : Bool × List (List Nat × List Nat) := (true, [([], []), ([], []), ([1], [1]), ([2], [2]), ([0, 3], [0, 3]), ([4], [4]), ([5], [5]), ([5], [5]), ([5], [5]), ([], []), ([9, 6, 4, 0, 1, 2, 3, 4, 5, 6, 9], [6, 9]), ([7, 10, 0, 1, 2, 3, 4, 5, 6, 7, 9, 10], [7]), ([8, 11, 0, 1, 2, 3, 4, 5, 6, 7, 8, 9, 10, 11], [8])])
def wk_B9 : List Nat := [0, 0, 2, 6, 15, 31, 63, 63, 63, 0, 639, 1791, 4095]
theorem wk_tab9 : rtab .any (opsOf Try.f9 9) = wk_T9 := by kernel_rfl
theorem wk_bits9 : waitsOk wk_T9.2 wk_B9 = true := by kernel_rfl
set_option maxHeartbeats 8000000 in
set_option maxRecDepth 100000 in
theorem worked_calls (w : World) : Calls Try.prog 9 #[] w fun e w' => e = .returned (.bool true) ∧ Below w.heap.size w w' := by
  have hu26 := Try.underlying26
  have hu28 := Try.underlying28
  go_enter Try.func9, Try.ntmps9
  go_wp2_with (first | (go_at_call 11; with_reducible refine (w_new0 _).mono ?_; rintro e w1 ⟨a6, a6', a7, a7', a8, a8', rfl, hA, hb, hK⟩; have HS1 := Aside0.mk ((Stays.new w1 (.cells #[.int .i64 0, .int .i64 3, .int .i64 0, .int .i64 0, .bool true, .int .i64 0, .slice a6 0 a6', .slice a7 3 a7', .slice a8 0 a8'] 26)).and ((Stays.of hK).alloc (.cells #[.int .i64 0, .int .i64 3, .int .i64 0, .int .i64 0, .bool true, .int .i64 0, .slice a6 0 a6', .slice a7 3 a7', .slice a8 0 a8'] 26))); have HB1 := Aside0.mk (below_alloc hb (.cells #[.int .i64 0, .int .i64 3, .int .i64 0, .int .i64 0, .bool true, .int .i64 0, .slice a6 0 a6', .slice a7 3 a7', .slice a8 0 a8'] 26)); clear hA hb hK))
  go_at_call 11
  with_reducible refine (w_new1 _).mono ?_
  rintro e w2 ⟨b6, b6', b7, b7', b8, b8', rfl, hA, hb, hK⟩
  have HS2 := Aside0.mk (((HS1.out.below hb).alloc (.cells #[.int .i64 1, .int .i64 3, .int .i64 0, .int .i64 0, .bool true, .int .i64 0, .slice b6 0 b6', .slice b7 3 b7', .slice b8 0 b8'] 26)).and ((Stays.new w2 (.cells #[.int .i64 1, .int .i64 3, .int .i64 0, .int .i64 0, .bool true, .int .i64 0, .slice b6 0 b6', .slice b7 3 b7', .slice b8 0 b8'] 26)).and ((Stays.of hK).alloc (.cells #[.int .i64 1, .int .i64 3, .int .i64 0, .int .i64 0, .bool true, .int .i64 0, .slice b6 0 b6', .slice b7 3 b7', .slice b8 0 b8'] 26))))
  have HB2 := Aside0.mk (below_alloc (below_step HB1.out hb) (.cells #[.int .i64 1, .int .i64 3, .int .i64 0, .int .i64 0, .bool true, .int .i64 0, .slice b6 0 b6', .slice b7 3 b7', .slice b8 0 b8'] 26))
  have p0 : (w2.alloc (.cells #[.int .i64 1, .int .i64 3, .int .i64 0, .int .i64 0, .bool true, .int .i64 0, .slice b6 0 b6', .slice b7 3 b7', .slice b8 0 b8'] 26)).cell? ⟨w1.heap.size, 0, none⟩ = some (.int .i64 0) := blk_cell HS2.out.here.1.1 0
  have p1 : (w2.alloc (.cells #[.int .i64 1, .int .i64 3, .int .i64 0, .int .i64 0, .bool true, .int .i64 0, .slice b6 0 b6', .slice b7 3 b7', .slice b8 0 b8'] 26)).cell? ⟨w1.heap.size, 1, none⟩ = some (.int .i64 3) := blk_cell HS2.out.here.1.1 1
  have p2 : (w2.alloc (.cells #[.int .i64 1, .int .i64 3, .int .i64 0, .int .i64 0, .bool true, .int .i64 0, .slice b6 0 b6', .slice b7 3 b7', .slice b8 0 b8'] 26)).cell? ⟨w1.heap.size, 2, none⟩ = some (.int .i64 0) := blk_cell HS2.out.here.1.1 2
  have p3 : (w2.alloc (.cells #[.int .i64 1, .int .i64 3, .int .i64 0, .int .i64 0, .bool true, .int .i64 0, .slice b6 0 b6', .slice b7 3 b7', .slice b8 0 b8'] 26)).cell? ⟨w1.heap.size, 3, none⟩ = some (.int .i64 0) := blk_cell HS2.out.here.1.1 3
  have p4 : (w2.alloc (.cells #[.int .i64 1, .int .i64 3, .int .i64 0, .int .i64 0, .bool true, .int .i64 0, .slice b6 0 b6', .slice b7 3 b7', .slice b8 0 b8'] 26)).cell? ⟨w1.heap.size, 4, none⟩ = some (.bool true) := blk_cell HS2.out.here.1.1 4
  have p5 : (w2.alloc (.cells #[.int .i64 1, .int .i64 3, .int .i64 0, .int .i64 0, .bool true, .int .i64 0, .slice b6 0 b6', .slice b7 3 b7', .slice b8 0 b8'] 26)).cell? ⟨w1.heap.size, 5, none⟩ = some (.int .i64 0) := blk_cell HS2.out.here.1.1 5
  have p6 : (w2.alloc (.cells #[.int .i64 1, .int .i64 3, .int .i64 0, .int .i64 0, .bool true, .int .i64 0, .slice b6 0 b6', .slice b7 3 b7', .slice b8 0 b8'] 26)).cell? ⟨w1.heap.size, 6, none⟩ = some (.slice a6 0 a6') := blk_cell HS2.out.here.1.1 6
  have p7 : (w2.alloc (.cells #[.int .i64 1, .int .i64 3, .int .i64 0, .int .i64 0, .bool true, .int .i64 0, .slice b6 0 b6', .slice b7 3 b7', .slice b8 0 b8'] 26)).cell? ⟨w1.heap.size, 7, none⟩ = some (.slice a7 3 a7') := blk_cell HS2.out.here.1.1 7
  have p8 : (w2.alloc (.cells #[.int .i64 1, .int .i64 3, .int .i64 0, .int .i64 0, .bool true, .int .i64 0, .slice b6 0 b6', .slice b7 3 b7', .slice b8 0 b8'] 26)).cell? ⟨w1.heap.size, 8, none⟩ = some (.slice a8 0 a8') := blk_cell HS2.out.here.1.1 8
  clear hA hb hK HS1 HB1
  go_wp2_with (fail)
  go_at_call 13
  with_reducible refine (w_ask1 _ _ _ _ _ _ _ HS2.out.here.1.2).mono ?_
  rintro e w3 ⟨c6, c6', c7, c7', c8, c8', t6, t6', rfl, hA, h9, hC, hb, hK⟩
  have HS3 := Aside0.mk (show Stays (w3.alloc (.cells #[.int .i64 0, .int .i64 3, .int .i64 0, .int .i64 0, .bool true, .int .i64 0, .slice c6 1 c6', .slice c7 3 c7', .slice c8 0 c8'] 26)) (fun W => W.heap[w2.heap.size]? = some (.cells #[.int .i64 1, .int .i64 3, .int .i64 0, .int .i64 0, .bool true, .int .i64 0, .slice b6 0 b6', .slice b7 3 b7', .slice b8 0 b8'] 26 (0, 0)) ∧ W.heap[w3.heap.size]? = some (.cells #[.int .i64 0, .int .i64 3, .int .i64 0, .int .i64 0, .bool true, .int .i64 0, .slice c6 1 c6', .slice c7 3 c7', .slice c8 0 c8'] 26 (0, 0)) ∧ Arg W (⟨1, 3, 0, 0, true, 0, [], [0, 0, 0], [], []⟩ : Nod) b6 b7 b8 b6' b7' b8' ∧ Arg W (⟨0, 3, 0, 0, true, 0, [⟨#[97]⟩], [1, 0, 0], [], [⟨1, 0, 1, 0, 0, 0, 0, [⟨#[97]⟩]⟩, ⟨1, 0, 2, 0, 0, 0, 0, [⟨#[97]⟩]⟩]⟩ : Nod) c6 c7 c8 c6' c7' c8' ∧ Kd.C k28 W t6 2 [(⟨1, 0, 1, 0, 0, 0, 0, [⟨#[97]⟩]⟩ : S28), (⟨1, 0, 2, 0, 0, 0, 0, [⟨#[97]⟩]⟩ : S28)]) from (((HS2.out.below hb).alloc (.cells #[.int .i64 0, .int .i64 3, .int .i64 0, .int .i64 0, .bool true, .int .i64 0, .slice c6 1 c6', .slice c7 3 c7', .slice c8 0 c8'] 26)).and ((Stays.new w3 (.cells #[.int .i64 0, .int .i64 3, .int .i64 0, .int .i64 0, .bool true, .int .i64 0, .slice c6 1 c6', .slice c7 3 c7', .slice c8 0 c8'] 26)).and ((Stays.of hK).alloc (.cells #[.int .i64 0, .int .i64 3, .int .i64 0, .int .i64 0, .bool true, .int .i64 0, .slice c6 1 c6', .slice c7 3 c7', .slice c8 0 c8'] 26)))).mono (fun W' h => ⟨h.1.2.1, h.2.1, h.1.2.2, h.2.2.1, h.2.2.2⟩))
  have HB := Aside0.mk (below_alloc (below_step HB2.out hb) (.cells #[.int .i64 0, .int .i64 3, .int .i64 0, .int .i64 0, .bool true, .int .i64 0, .slice c6 1 c6', .slice c7 3 c7', .slice c8 0 c8'] 26))
  have q0 : (w3.alloc (.cells #[.int .i64 0, .int .i64 3, .int .i64 0, .int .i64 0, .bool true, .int .i64 0, .slice c6 1 c6', .slice c7 3 c7', .slice c8 0 c8'] 26)).cell? ⟨w2.heap.size, 0, none⟩ = some (.int .i64 1) := blk_cell HS3.out.here.1 0
  have q1 : (w3.alloc (.cells #[.int .i64 0, .int .i64 3, .int .i64 0, .int .i64 0, .bool true, .int .i64 0, .slice c6 1 c6', .slice c7 3 c7', .slice c8 0 c8'] 26)).cell? ⟨w2.heap.size, 1, none⟩ = some (.int .i64 3) := blk_cell HS3.out.here.1 1
  have q2 : (w3.alloc (.cells #[.int .i64 0, .int .i64 3, .int .i64 0, .int .i64 0, .bool true, .int .i64 0, .slice c6 1 c6', .slice c7 3 c7', .slice c8 0 c8'] 26)).cell? ⟨w2.heap.size, 2, none⟩ = some (.int .i64 0) := blk_cell HS3.out.here.1 2
  have q3 : (w3.alloc (.cells #[.int .i64 0, .int .i64 3, .int .i64 0, .int .i64 0, .bool true, .int .i64 0, .slice c6 1 c6', .slice c7 3 c7', .slice c8 0 c8'] 26)).cell? ⟨w2.heap.size, 3, none⟩ = some (.int .i64 0) := blk_cell HS3.out.here.1 3
  have q4 : (w3.alloc (.cells #[.int .i64 0, .int .i64 3, .int .i64 0, .int .i64 0, .bool true, .int .i64 0, .slice c6 1 c6', .slice c7 3 c7', .slice c8 0 c8'] 26)).cell? ⟨w2.heap.size, 4, none⟩ = some (.bool true) := blk_cell HS3.out.here.1 4
  have q5 : (w3.alloc (.cells #[.int .i64 0, .int .i64 3, .int .i64 0, .int .i64 0, .bool true, .int .i64 0, .slice c6 1 c6', .slice c7 3 c7', .slice c8 0 c8'] 26)).cell? ⟨w2.heap.size, 5, none⟩ = some (.int .i64 0) := blk_cell HS3.out.here.1 5
  have q6 : (w3.alloc (.cells #[.int .i64 0, .int .i64 3, .int .i64 0, .int .i64 0, .bool true, .int .i64 0, .slice c6 1 c6', .slice c7 3 c7', .slice c8 0 c8'] 26)).cell? ⟨w2.heap.size, 6, none⟩ = some (.slice b6 0 b6') := blk_cell HS3.out.here.1 6
  have q7 : (w3.alloc (.cells #[.int .i64 0, .int .i64 3, .int .i64 0, .int .i64 0, .bool true, .int .i64 0, .slice c6 1 c6', .slice c7 3 c7', .slice c8 0 c8'] 26)).cell? ⟨w2.heap.size, 7, none⟩ = some (.slice b7 3 b7') := blk_cell HS3.out.here.1 7
  have q8 : (w3.alloc (.cells #[.int .i64 0, .int .i64 3, .int .i64 0, .int .i64 0, .bool true, .int .i64 0, .slice c6 1 c6', .slice c7 3 c7', .slice c8 0 c8'] 26)).cell? ⟨w2.heap.size, 8, none⟩ = some (.slice b8 0 b8') := blk_cell HS3.out.here.1 8
  clear hA h9 hC hb hK HS2 HB2 p0 p1 p2 p3 p4 p5 p6 p7 p8
  obtain ⟨ad3, zM, zm, ze, z0, z1, z2, z3, z4, z5, z6, z7, zl, zh⟩ := at_T28 HS3.out.here.2.2.2.2 0 (by decide) (by decide)
  cases ze
  simp only [show (0 : Int).toNat = 0 from rfl, Nat.zero_mul, Nat.one_mul] at z0 z1 z2 z3 z4 z5 z6 z7
  change _ = some (Value.int .i64 1) at z0
  change _ = some (Value.int .i64 0) at z1
  change _ = some (Value.int .i64 1) at z2
  change _ = some (Value.int .i64 0) at z3
  change _ = some (Value.int .i64 0) at z4
  change _ = some (Value.int .i64 0) at z5
  change _ = some (Value.int .i64 0) at z6
  change _ = some (Value.slice zM 1 zm) at z7
  rw [show ad3.add 0 = ad3 from rfl] at z0 z1 z2 z3 z4 z5 z6 z7
  have HZ := Aside0.mk (show Kd.C Kd.string (w3.alloc (.cells #[.int .i64 0, .int .i64 3, .int .i64 0, .int .i64 0, .bool true, .int .i64 0, .slice c6 1 c6', .slice c7 3 c7', .slice c8 0 c8'] 26)) zM 1 [⟨#[97]⟩] from zh)
  have HZL := Aside0.mk (show 1 ≤ zm from zl)
  clear zh zl
  obtain ⟨ad3', yM, ym, ze, y0, y1, y2, y3, y4, y5, y6, y7, zl, zh⟩ := at_T28 HS3.out.here.2.2.2.2 1 (by decide) (by decide)
  cases ze
  simp only [show (1 : Int).toNat = 1 from rfl, Nat.zero_mul, Nat.one_mul] at y0 y1 y2 y3 y4 y5 y6 y7
  change _ = some (Value.int .i64 1) at y0
  change _ = some (Value.int .i64 0) at y1
  change _ = some (Value.int .i64 2) at y2
  change _ = some (Value.int .i64 0) at y3
  change _ = some (Value.int .i64 0) at y4
  change _ = some (Value.int .i64 0) at y5
  change _ = some (Value.int .i64 0) at y6
  change _ = some (Value.slice yM 1 ym) at y7
  change (w3.alloc (.cells #[.int .i64 0, .int .i64 3, .int .i64 0, .int .i64 0, .bool true, .int .i64 0, .slice c6 1 c6', .slice c7 3 c7', .slice c8 0 c8'] 26)).cell? ⟨ad3.block, ad3.off + 8 + 2, none⟩ = _ at y2
  clear y0 y1 y3 y4 y5 y6 y7 zh zl
  have HS := Aside0.mk (show Stays (w3.alloc (.cells #[.int .i64 0, .int .i64 3, .int .i64 0, .int .i64 0, .bool true, .int .i64 0, .slice c6 1 c6', .slice c7 3 c7', .slice c8 0 c8'] 26)) (fun W => W.heap[w2.heap.size]? = some (.cells #[.int .i64 1, .int .i64 3, .int .i64 0, .int .i64 0, .bool true, .int .i64 0, .slice b6 0 b6', .slice b7 3 b7', .slice b8 0 b8'] 26 (0, 0)) ∧ W.heap[w3.heap.size]? = some (.cells #[.int .i64 0, .int .i64 3, .int .i64 0, .int .i64 0, .bool true, .int .i64 0, .slice c6 1 c6', .slice c7 3 c7', .slice c8 0 c8'] 26 (0, 0)) ∧ Arg W (⟨1, 3, 0, 0, true, 0, [], [0, 0, 0], [], []⟩ : Nod) b6 b7 b8 b6' b7' b8' ∧ Arg W (⟨0, 3, 0, 0, true, 0, [⟨#[97]⟩], [1, 0, 0], [], [⟨1, 0, 1, 0, 0, 0, 0, [⟨#[97]⟩]⟩, ⟨1, 0, 2, 0, 0, 0, 0, [⟨#[97]⟩]⟩]⟩ : Nod) c6 c7 c8 c6' c7' c8') from HS3.out.mono (fun W' h => ⟨h.1, h.2.1, h.2.2.1, h.2.2.2.1⟩))
  clear HS3
  go_wp2_with (fail)
  clear y2
  generalize (w3.alloc (.cells #[.int .i64 0, .int .i64 3, .int .i64 0, .int .i64 0, .bool true, .int .i64 0, .slice c6 1 c6', .slice c7 3 c7', .slice c8 0 c8'] 26)) = wc at HS HB HZ q0 q1 q2 q3 q4 q5 q6 q7 q8 z0 z1 z2 z3 z4 z5 z6 z7 ⊢
  refine start_ (n := 13) (S := fun w' => w'.cell? ⟨w2.heap.size, 0, none⟩ = some (.int .i64 1) ∧ w'.cell? ⟨w2.heap.size, 1, none⟩ = some (.int .i64 3) ∧ w'.cell? ⟨w2.heap.size, 2, none⟩ = some (.int .i64 0) ∧ w'.cell? ⟨w2.heap.size, 3, none⟩ = some (.int .i64 0) ∧ w'.cell? ⟨w2.heap.size, 4, none⟩ = some (.bool true) ∧ w'.cell? ⟨w2.heap.size, 5, none⟩ = some (.int .i64 0) ∧ w'.cell? ⟨w2.heap.size, 6, none⟩ = some (.slice b6 0 b6') ∧ w'.cell? ⟨w2.heap.size, 7, none⟩ = some (.slice b7 3 b7') ∧ w'.cell? ⟨w2.heap.size, 8, none⟩ = some (.slice b8 0 b8') ∧ w'.cell? ad3 = some (.int .i64 1) ∧ w'.cell? ⟨ad3.block, ad3.off + 1, none⟩ = some (.int .i64 0) ∧ w'.cell? ⟨ad3.block, ad3.off + 2, none⟩ = some (.int .i64 1) ∧ w'.cell? ⟨ad3.block, ad3.off + 3, none⟩ = some (.int .i64 0) ∧ w'.cell? ⟨ad3.block, ad3.off + 4, none⟩ = some (.int .i64 0) ∧ w'.cell? ⟨ad3.block, ad3.off + 5, none⟩ = some (.int .i64 0) ∧ w'.cell? ⟨ad3.block, ad3.off + 6, none⟩ = some (.int .i64 0) ∧ w'.cell? ⟨ad3.block, ad3.off + 7, none⟩ = some (.slice zM 1 zm)) (ds := []) #[false, false, false, false, false, false, false, false, false, false, false, false, false] (by kernel_rfl) rfl rfl ⟨q0, q1, q2, q3, q4, q5, q6, q7, q8, z0, z1, z2, z3, z4, z5, z6, z7⟩ (fun hHeld => ?_)
  refine with_tabW wk_tab6 wk_bits6 (fun HT_ HW_ => ?_)
  have HS' : Aside0 (Stays wc.drew (fun W => W.heap[w2.heap.size]? = some (.cells #[.int .i64 1, .int .i64 3, .int .i64 0, .int .i64 0, .bool true, .int .i64 0, .slice b6 0 b6', .slice b7 3 b7', .slice b8 0 b8'] 26 (0, 0)) ∧ W.heap[w3.heap.size]? = some (.cells #[.int .i64 0, .int .i64 3, .int .i64 0, .int .i64 0, .bool true, .int .i64 0, .slice c6 1 c6', .slice c7 3 c7', .slice c8 0 c8'] 26 (0, 0)) ∧ Arg W (⟨1, 3, 0, 0, true, 0, [], [0, 0, 0], [], []⟩ : Nod) b6 b7 b8 b6' b7' b8' ∧ Arg W (⟨0, 3, 0, 0, true, 0, [⟨#[97]⟩], [1, 0, 0], [], [⟨1, 0, 1, 0, 0, 0, 0, [⟨#[97]⟩]⟩, ⟨1, 0, 2, 0, 0, 0, 0, [⟨#[97]⟩]⟩]⟩ : Nod) c6 c7 c8 c6' c7' c8')) := ⟨HS.out⟩
  have HB' : Aside0 (Below w.heap.size w wc.drew) := ⟨below_drew1 HB.out⟩
  have HZ' : Aside0 (Kd.C Kd.string wc.drew zM 1 [⟨#[97]⟩]) := ⟨HZ.out⟩
  have hgin' : w2.heap.size < wc.drew.heap.size := World.block_lt_of_cell? _ _ hHeld.1
  have had' : ad3.block < wc.drew.heap.size := World.block_lt_of_cell? _ _ hHeld.2.2.2.2.2.2.2.2.2.1
  clear HS HB HZ q0 q1 q2 q3 q4 q5 q6 q7 q8 z0 z1 z2 z3 z4 z5 z6 z7
  generalize wc.drew = w0_6 at HS' HB' HZ' hgin' had' hHeld ⊢
  have HB0 := Aside0.mk (below_size HB'.out)
  refine pure_ (i := 1) (N := some 65) (v := ?_) (a' := ?_) #[false, true, false, false, false, false, false, false, false, false, false, false, false] rfl rfl (any_of HT_.out (by kernel_rfl)) (fun _ _ _ h => h) (Or.inl ⟨by rfl, ?_⟩) ?_ ?_
  rotate_left
  · intro w'
    go_simp
    with_reducible rfl
  rotate_left
  · simp only [Act.put, List.setIfInBounds_toArray, List.set_cons_zero, List.set_cons_succ, i64_w, i32_w]
    rfl
  refine pure_ (i := 2) (N := some 66) (v := ?_) (a' := ?_) #[false, true, true, false, false, false, false, false, false, false, false, false, false] rfl rfl (any_of HT_.out (by kernel_rfl)) (fun _ _ _ h => h) (Or.inl ⟨by rfl, ?_⟩) ?_ ?_
  rotate_left
  · intro w'
    go_simp
    with_reducible rfl
  rotate_left
  · simp only [Act.put, List.setIfInBounds_toArray, List.set_cons_zero, List.set_cons_succ, i64_w, i32_w]
    rfl
  refine take_ (i := 0) (N := some 64) (v := ?_) (a' := ?_) #[true, true, true, false, false, false, false, false, false, false, false, false, false] rfl rfl (take_ofW HT_.out HW_.out (by kernel_rfl)) (fun _ _ _ h => h) (Or.inl ⟨by rfl, ?_⟩) hHeld ?_ ?_
  rotate_left
  · rintro w' ⟨s0, s1, s2, s3, s4, s5, s6, s7, s8, s9, s10, s11, s12, s13, s14, s15, s16⟩
    go_simp
    with_reducible rfl
  rotate_left
  · simp only [Act.put, List.setIfInBounds_toArray, List.set_cons_zero, List.set_cons_succ, i64_w, i32_w]
    rfl
  refine take_ (i := 3) (N := some 67) (v := ?_) (a' := ?_) #[true, true, true, true, false, false, false, false, false, false, false, false, false] rfl rfl (take_ofW HT_.out HW_.out (by kernel_rfl)) (fun _ _ _ h => h) (Or.inl ⟨by rfl, ?_⟩) hHeld ?_ ?_
  rotate_left
  · rintro w' ⟨s0, s1, s2, s3, s4, s5, s6, s7, s8, s9, s10, s11, s12, s13, s14, s15, s16⟩
    go_simp
    with_reducible rfl
  rotate_left
  · simp only [Act.put, List.setIfInBounds_toArray, List.set_cons_zero, List.set_cons_succ, i64_w, i32_w]
    rfl
  refine join_ (σ := Option Addr × Nat × Option Addr × Nat × Option Addr × Nat × Option Addr × Nat × Nat) 3 #[true, true, true, true, true, true, true, true, true, true, false, false, false] (fun s_ => [(68, .tuple #[.agg #[.int .i64 1, .int .i64 3, .int .i64 0, .int .i64 0, .bool true, .int .i64 0, .slice s_.1 1 s_.2.1, .slice s_.2.2.1 3 s_.2.2.2.1, .slice s_.2.2.2.2.1 0 s_.2.2.2.2.2.1], .slice s_.2.2.2.2.2.2.1 1 s_.2.2.2.2.2.2.2.1, .int .i64 0]), (8, .pointer (some ⟨s_.2.2.2.2.2.2.2.2, 0, none⟩)), (63, .tuple #[.agg #[.int .i64 1, .int .i64 3, .int .i64 0, .int .i64 0, .bool true, .int .i64 0, .slice s_.1 1 s_.2.1, .slice s_.2.2.1 3 s_.2.2.2.1, .slice s_.2.2.2.2.1 0 s_.2.2.2.2.2.1], .slice s_.2.2.2.2.2.2.1 1 s_.2.2.2.2.2.2.2.1, .int .i64 0]), (69, .agg #[.int .i64 1, .int .i64 3, .int .i64 0, .int .i64 0, .bool true, .int .i64 0, .slice s_.1 1 s_.2.1, .slice s_.2.2.1 3 s_.2.2.2.1, .slice s_.2.2.2.2.1 0 s_.2.2.2.2.2.1]), (70, .slice s_.2.2.2.2.2.2.1 1 s_.2.2.2.2.2.2.2.1), (71, .int .i64 0)]) (fun s_ w' => (w'.cell? ⟨w2.heap.size, 0, none⟩ = some (.int .i64 1) ∧ w'.cell? ⟨w2.heap.size, 1, none⟩ = some (.int .i64 3) ∧ w'.cell? ⟨w2.heap.size, 2, none⟩ = some (.int .i64 0) ∧ w'.cell? ⟨w2.heap.size, 3, none⟩ = some (.int .i64 0) ∧ w'.cell? ⟨w2.heap.size, 4, none⟩ = some (.bool true) ∧ w'.cell? ⟨w2.heap.size, 5, none⟩ = some (.int .i64 0) ∧ w'.cell? ⟨w2.heap.size, 6, none⟩ = some (.slice b6 0 b6') ∧ w'.cell? ⟨w2.heap.size, 7, none⟩ = some (.slice b7 3 b7') ∧ w'.cell? ⟨w2.heap.size, 8, none⟩ = some (.slice b8 0 b8') ∧ w'.cell? ad3 = some (.int .i64 1) ∧ w'.cell? ⟨ad3.block, ad3.off + 1, none⟩ = some (.int .i64 0) ∧ w'.cell? ⟨ad3.block, ad3.off + 2, none⟩ = some (.int .i64 1) ∧ w'.cell? ⟨ad3.block, ad3.off + 3, none⟩ = some (.int .i64 0) ∧ w'.cell? ⟨ad3.block, ad3.off + 4, none⟩ = some (.int .i64 0) ∧ w'.cell? ⟨ad3.block, ad3.off + 5, none⟩ = some (.int .i64 0) ∧ w'.cell? ⟨ad3.block, ad3.off + 6, none⟩ = some (.int .i64 0) ∧ w'.cell? ⟨ad3.block, ad3.off + 7, none⟩ = some (.slice zM 1 zm)) ∧ (w'.heap[s_.2.2.2.2.2.2.2.2]? = some (.cells #[.int .i64 0, .int .i64 0, .int .i64 0, .int .i64 0, .bool false, .int .i64 0, .slice none 0 0, .slice none 0 0, .slice none 0 0] 26 (0, 0))) ∧ (StaysBut w' s_.2.2.2.2.2.2.2.2 (fun W => W.heap[w2.heap.size]? = some (.cells #[.int .i64 1, .int .i64 3, .int .i64 0, .int .i64 0, .bool true, .int .i64 0, .slice b6 0 b6', .slice b7 3 b7', .slice b8 0 b8'] 26 (0, 0)) ∧ W.heap[w3.heap.size]? = some (.cells #[.int .i64 0, .int .i64 3, .int .i64 0, .int .i64 0, .bool true, .int .i64 0, .slice c6 1 c6', .slice c7 3 c7', .slice c8 0 c8'] 26 (0, 0)) ∧ Arg W (⟨1, 3, 0, 0, true, 0, [], [0, 0, 0], [], []⟩ : Nod) b6 b7 b8 b6' b7' b8' ∧ Arg W (⟨0, 3, 0, 0, true, 0, [⟨#[97]⟩], [1, 0, 0], [], [⟨1, 0, 1, 0, 0, 0, 0, [⟨#[97]⟩]⟩, ⟨1, 0, 2, 0, 0, 0, 0, [⟨#[97]⟩]⟩]⟩ : Nod) c6 c7 c8 c6' c7' c8' ∧ Arg W (⟨1, 3, 0, 0, true, 0, [⟨#[97]⟩], [0, 0, 0], [], [⟨2, 1, 0, 0, 0, 0, 1, []⟩]⟩ : Nod) s_.1 s_.2.2.1 s_.2.2.2.2.1 s_.2.1 s_.2.2.2.1 s_.2.2.2.2.2.1 ∧ Kd.C k28 W s_.2.2.2.2.2.2.1 1 [(⟨2, 1, 0, 0, 0, 0, 1, []⟩ : S28)])) ∧ (w0_6.heap.size ≤ s_.2.2.2.2.2.2.2.2) ∧ (Below w.heap.size w w')) ?_ ?_
  rotate_left
  · intro hCont
    refine two_ (i := 4) (j := 9) (Ni := some 68) (Nj := some 8) #[true, true, true, true, true, false, false, false, false, false, false, false, false] #[true, true, true, true, false, false, false, false, false, true, false, false, false] rfl rfl rfl rfl (two_of HT_.out (by kernel_rfl)) (by decide) (by decide) (fun K hK => ?_) (fun K hK => ?_)
    · skip
      refine goes_ Try.func8 (by kernel_rfl) rfl #[.agg #[.int .i64 1, .int .i64 3, .int .i64 0, .int .i64 0, .bool true, .int .i64 0, .slice b6 0 b6', .slice b7 3 b7', .slice b8 0 b8'], .agg #[.int .i64 1, .int .i64 0, .int .i64 1, .int .i64 0, .int .i64 0, .int .i64 0, .int .i64 0, .slice zM 1 zm]] (by rfl) rfl rfl (by (try simp only [List.map_toArray, List.map_cons, List.map_nil]); first | done | rfl) ?_
      with_reducible refine (w_handle1 _ _ _ _ _ _ _ zM zm (HS'.out.here).2.2.1 HZ'.out HZL.out).mono ?_
      rintro e w4 ⟨d6, d6', d7, d7', d8, d8', s6, s6', rfl, hA, h9, hC, hb, hKK⟩
      refine ⟨_, rfl, ?_⟩
      have hS4 : w4.cell? ⟨w2.heap.size, 0, none⟩ = some (.int .i64 1) ∧ w4.cell? ⟨w2.heap.size, 1, none⟩ = some (.int .i64 3) ∧ w4.cell? ⟨w2.heap.size, 2, none⟩ = some (.int .i64 0) ∧ w4.cell? ⟨w2.heap.size, 3, none⟩ = some (.int .i64 0) ∧ w4.cell? ⟨w2.heap.size, 4, none⟩ = some (.bool true) ∧ w4.cell? ⟨w2.heap.size, 5, none⟩ = some (.int .i64 0) ∧ w4.cell? ⟨w2.heap.size, 6, none⟩ = some (.slice b6 0 b6') ∧ w4.cell? ⟨w2.heap.size, 7, none⟩ = some (.slice b7 3 b7') ∧ w4.cell? ⟨w2.heap.size, 8, none⟩ = some (.slice b8 0 b8') ∧ w4.cell? ad3 = some (.int .i64 1) ∧ w4.cell? ⟨ad3.block, ad3.off + 1, none⟩ = some (.int .i64 0) ∧ w4.cell? ⟨ad3.block, ad3.off + 2, none⟩ = some (.int .i64 1) ∧ w4.cell? ⟨ad3.block, ad3.off + 3, none⟩ = some (.int .i64 0) ∧ w4.cell? ⟨ad3.block, ad3.off + 4, none⟩ = some (.int .i64 0) ∧ w4.cell? ⟨ad3.block, ad3.off + 5, none⟩ = some (.int .i64 0) ∧ w4.cell? ⟨ad3.block, ad3.off + 6, none⟩ = some (.int .i64 0) ∧ w4.cell? ⟨ad3.block, ad3.off + 7, none⟩ = some (.slice zM 1 zm) := ⟨(hb.cell (World.block_lt_of_cell? _ _ (hHeld.1))).trans (hHeld.1), (hb.cell (World.block_lt_of_cell? _ _ (hHeld.2.1))).trans (hHeld.2.1), (hb.cell (World.block_lt_of_cell? _ _ (hHeld.2.2.1))).trans (hHeld.2.2.1), (hb.cell (World.block_lt_of_cell? _ _ (hHeld.2.2.2.1))).trans (hHeld.2.2.2.1), (hb.cell (World.block_lt_of_cell? _ _ (hHeld.2.2.2.2.1))).trans (hHeld.2.2.2.2.1), (hb.cell (World.block_lt_of_cell? _ _ (hHeld.2.2.2.2.2.1))).trans (hHeld.2.2.2.2.2.1), (hb.cell (World.block_lt_of_cell? _ _ (hHeld.2.2.2.2.2.2.1))).trans (hHeld.2.2.2.2.2.2.1), (hb.cell (World.block_lt_of_cell? _ _ (hHeld.2.2.2.2.2.2.2.1))).trans (hHeld.2.2.2.2.2.2.2.1), (hb.cell (World.block_lt_of_cell? _ _ (hHeld.2.2.2.2.2.2.2.2.1))).trans (hHeld.2.2.2.2.2.2.2.2.1), (hb.cell (World.block_lt_of_cell? _ _ (hHeld.2.2.2.2.2.2.2.2.2.1))).trans (hHeld.2.2.2.2.2.2.2.2.2.1), (hb.cell (World.block_lt_of_cell? _ _ (hHeld.2.2.2.2.2.2.2.2.2.2.1))).trans (hHeld.2.2.2.2.2.2.2.2.2.2.1), (hb.cell (World.block_lt_of_cell? _ _ (hHeld.2.2.2.2.2.2.2.2.2.2.2.1))).trans (hHeld.2.2.2.2.2.2.2.2.2.2.2.1), (hb.cell (World.block_lt_of_cell? _ _ (hHeld.2.2.2.2.2.2.2.2.2.2.2.2.1))).trans (hHeld.2.2.2.2.2.2.2.2.2.2.2.2.1), (hb.cell (World.block_lt_of_cell? _ _ (hHeld.2.2.2.2.2.2.2.2.2.2.2.2.2.1))).trans (hHeld.2.2.2.2.2.2.2.2.2.2.2.2.2.1), (hb.cell (World.block_lt_of_cell? _ _ (hHeld.2.2.2.2.2.2.2.2.2.2.2.2.2.2.1))).trans (hHeld.2.2.2.2.2.2.2.2.2.2.2.2.2.2.1), (hb.cell (World.block_lt_of_cell? _ _ (hHeld.2.2.2.2.2.2.2.2.2.2.2.2.2.2.2.1))).trans (hHeld.2.2.2.2.2.2.2.2.2.2.2.2.2.2.2.1), (hb.cell (World.block_lt_of_cell? _ _ (hHeld.2.2.2.2.2.2.2.2.2.2.2.2.2.2.2.2))).trans (hHeld.2.2.2.2.2.2.2.2.2.2.2.2.2.2.2.2)⟩
      have HS4 := Aside0.mk ((HS'.out.below hb).and (Stays.of hKK))
      have HB4 := Aside0.mk (below_step HB'.out hb)
      have hz4 := hb.size
      clear hA h9 hC hb hKK hHeld
      refine hK.out _ _ hS4 (fun hHeld => ?_)
      clear hK K hS4
      refine norm_ (a' := ?_) ?_ ?_
      rotate_left
      · show Act.put _ (some 68) _ = _
        simp only [Act.put, List.setIfInBounds_toArray, List.set_cons_zero, List.set_cons_succ, i64_w, i32_w]
        rfl
      refine pure_ (i := 5) (N := some 63) (v := ?_) (a' := ?_) #[true, true, true, true, true, true, false, false, false, false, false, false, false] rfl rfl (any_of HT_.out (by kernel_rfl)) (fun _ _ _ h => h) (Or.inl ⟨by rfl, ?_⟩) ?_ ?_
      rotate_left
      · intro w'
        go_simp
        with_reducible rfl
      rotate_left
      · simp only [Act.put, List.setIfInBounds_toArray, List.set_cons_zero, List.set_cons_succ, i64_w, i32_w]
        rfl
      refine pure_ (i := 6) (N := some 69) (v := ?_) (a' := ?_) #[true, true, true, true, true, true, true, false, false, false, false, false, false] rfl rfl (any_of HT_.out (by kernel_rfl)) (fun _ _ _ h => h) (Or.inl ⟨by rfl, ?_⟩) ?_ ?_
      rotate_left
      · intro w'
        go_simp
        with_reducible rfl
      rotate_left
      · simp only [Act.put, List.setIfInBounds_toArray, List.set_cons_zero, List.set_cons_succ, i64_w, i32_w]
        rfl
      refine pure_ (i := 7) (N := some 70) (v := ?_) (a' := ?_) #[true, true, true, true, true, true, true, true, false, false, false, false, false] rfl rfl (any_of HT_.out (by kernel_rfl)) (fun _ _ _ h => h) (Or.inl ⟨by rfl, ?_⟩) ?_ ?_
      rotate_left
      · intro w'
        go_simp
        with_reducible rfl
      rotate_left
      · simp only [Act.put, List.setIfInBounds_toArray, List.set_cons_zero, List.set_cons_succ, i64_w, i32_w]
        rfl
      refine pure_ (i := 8) (N := some 71) (v := ?_) (a' := ?_) #[true, true, true, true, true, true, true, true, true, false, false, false, false] rfl rfl (any_of HT_.out (by kernel_rfl)) (fun _ _ _ h => h) (Or.inl ⟨by rfl, ?_⟩) ?_ ?_
      rotate_left
      · intro w'
        go_simp
        with_reducible rfl
      rotate_left
      · simp only [Act.put, List.setIfInBounds_toArray, List.set_cons_zero, List.set_cons_succ, i64_w, i32_w]
        rfl
      refine one_ (i := 9) (N := some 8) #[true, true, true, true, true, true, true, true, true, true, false, false, false] rfl rfl (one_of HT_.out (by kernel_rfl)) (by decide) (fun K hK => ?_)
      refine box_step ?hg (N := 8) ?hd (cs := #[.int .i64 0, .int .i64 0, .int .i64 0, .int .i64 0, .bool false, .int .i64 0, .slice none 0 0, .slice none 0 0, .slice none 0 0]) (t := 26) ?hr ?_; (case hd => rfl); (case hg => rfl); (case hr => first | (go_simp; done) | (go_simp; rfl))
      intro gd hg w5 hbox' hb
      have hS5 : w5.cell? ⟨w2.heap.size, 0, none⟩ = some (.int .i64 1) ∧ w5.cell? ⟨w2.heap.size, 1, none⟩ = some (.int .i64 3) ∧ w5.cell? ⟨w2.heap.size, 2, none⟩ = some (.int .i64 0) ∧ w5.cell? ⟨w2.heap.size, 3, none⟩ = some (.int .i64 0) ∧ w5.cell? ⟨w2.heap.size, 4, none⟩ = some (.bool true) ∧ w5.cell? ⟨w2.heap.size, 5, none⟩ = some (.int .i64 0) ∧ w5.cell? ⟨w2.heap.size, 6, none⟩ = some (.slice b6 0 b6') ∧ w5.cell? ⟨w2.heap.size, 7, none⟩ = some (.slice b7 3 b7') ∧ w5.cell? ⟨w2.heap.size, 8, none⟩ = some (.slice b8 0 b8') ∧ w5.cell? ad3 = some (.int .i64 1) ∧ w5.cell? ⟨ad3.block, ad3.off + 1, none⟩ = some (.int .i64 0) ∧ w5.cell? ⟨ad3.block, ad3.off + 2, none⟩ = some (.int .i64 1) ∧ w5.cell? ⟨ad3.block, ad3.off + 3, none⟩ = some (.int .i64 0) ∧ w5.cell? ⟨ad3.block, ad3.off + 4, none⟩ = some (.int .i64 0) ∧ w5.cell? ⟨ad3.block, ad3.off + 5, none⟩ = some (.int .i64 0) ∧ w5.cell? ⟨ad3.block, ad3.off + 6, none⟩ = some (.int .i64 0) ∧ w5.cell? ⟨ad3.block, ad3.off + 7, none⟩ = some (.slice zM 1 zm) := ⟨(hb.cell (World.block_lt_of_cell? _ _ (hHeld.1))).trans (hHeld.1), (hb.cell (World.block_lt_of_cell? _ _ (hHeld.2.1))).trans (hHeld.2.1), (hb.cell (World.block_lt_of_cell? _ _ (hHeld.2.2.1))).trans (hHeld.2.2.1), (hb.cell (World.block_lt_of_cell? _ _ (hHeld.2.2.2.1))).trans (hHeld.2.2.2.1), (hb.cell (World.block_lt_of_cell? _ _ (hHeld.2.2.2.2.1))).trans (hHeld.2.2.2.2.1), (hb.cell (World.block_lt_of_cell? _ _ (hHeld.2.2.2.2.2.1))).trans (hHeld.2.2.2.2.2.1), (hb.cell (World.block_lt_of_cell? _ _ (hHeld.2.2.2.2.2.2.1))).trans (hHeld.2.2.2.2.2.2.1), (hb.cell (World.block_lt_of_cell? _ _ (hHeld.2.2.2.2.2.2.2.1))).trans (hHeld.2.2.2.2.2.2.2.1), (hb.cell (World.block_lt_of_cell? _ _ (hHeld.2.2.2.2.2.2.2.2.1))).trans (hHeld.2.2.2.2.2.2.2.2.1), (hb.cell (World.block_lt_of_cell? _ _ (hHeld.2.2.2.2.2.2.2.2.2.1))).trans (hHeld.2.2.2.2.2.2.2.2.2.1), (hb.cell (World.block_lt_of_cell? _ _ (hHeld.2.2.2.2.2.2.2.2.2.2.1))).trans (hHeld.2.2.2.2.2.2.2.2.2.2.1), (hb.cell (World.block_lt_of_cell? _ _ (hHeld.2.2.2.2.2.2.2.2.2.2.2.1))).trans (hHeld.2.2.2.2.2.2.2.2.2.2.2.1), (hb.cell (World.block_lt_of_cell? _ _ (hHeld.2.2.2.2.2.2.2.2.2.2.2.2.1))).trans (hHeld.2.2.2.2.2.2.2.2.2.2.2.2.1), (hb.cell (World.block_lt_of_cell? _ _ (hHeld.2.2.2.2.2.2.2.2.2.2.2.2.2.1))).trans (hHeld.2.2.2.2.2.2.2.2.2.2.2.2.2.1), (hb.cell (World.block_lt_of_cell? _ _ (hHeld.2.2.2.2.2.2.2.2.2.2.2.2.2.2.1))).trans (hHeld.2.2.2.2.2.2.2.2.2.2.2.2.2.2.1), (hb.cell (World.block_lt_of_cell? _ _ (hHeld.2.2.2.2.2.2.2.2.2.2.2.2.2.2.2.1))).trans (hHeld.2.2.2.2.2.2.2.2.2.2.2.2.2.2.2.1), (hb.cell (World.block_lt_of_cell? _ _ (hHeld.2.2.2.2.2.2.2.2.2.2.2.2.2.2.2.2))).trans (hHeld.2.2.2.2.2.2.2.2.2.2.2.2.2.2.2.2)⟩
      have HF5 := HS4.out.but_new hg hb
      have HB5 := below_step HB4.out hb
      have hz5 : w0_6.heap.size ≤ gd := by rw [hg]; exact hz4
      refine hK.out _ _ hS5 (fun hHeld => ?_)
      clear hK K hS5
      refine norm_ (a' := ?_) ?_ ?_
      rotate_left
      · show Act.put _ (some 8) _ = _
        simp only [Act.put, List.setIfInBounds_toArray, List.set_cons_zero, List.set_cons_succ, i64_w, i32_w]
        rfl
      exact norm_ (by simp only [putAll, Act.put, List.setIfInBounds_toArray, List.set_cons_zero, List.set_cons_succ]) (hCont (d6, d6', d7, d7', d8, d8', s6, s6', gd) _ ⟨hHeld, hbox', HF5.mono (fun W' h => ⟨h.1.1, h.1.2.1, h.1.2.2.1, h.1.2.2.2, h.2.1, h.2.2⟩), hz5, HB5⟩)
    · skip
      refine box_step ?hg (N := 8) ?hd (cs := #[.int .i64 0, .int .i64 0, .int .i64 0, .int .i64 0, .bool false, .int .i64 0, .slice none 0 0, .slice none 0 0, .slice none 0 0]) (t := 26) ?hr ?_; (case hd => rfl); (case hg => rfl); (case hr => first | (go_simp; done) | (go_simp; rfl))
      intro gd hg w4 hbox hb4
      have hS4 : w4.cell? ⟨w2.heap.size, 0, none⟩ = some (.int .i64 1) ∧ w4.cell? ⟨w2.heap.size, 1, none⟩ = some (.int .i64 3) ∧ w4.cell? ⟨w2.heap.size, 2, none⟩ = some (.int .i64 0) ∧ w4.cell? ⟨w2.heap.size, 3, none⟩ = some (.int .i64 0) ∧ w4.cell? ⟨w2.heap.size, 4, none⟩ = some (.bool true) ∧ w4.cell? ⟨w2.heap.size, 5, none⟩ = some (.int .i64 0) ∧ w4.cell? ⟨w2.heap.size, 6, none⟩ = some (.slice b6 0 b6') ∧ w4.cell? ⟨w2.heap.size, 7, none⟩ = some (.slice b7 3 b7') ∧ w4.cell? ⟨w2.heap.size, 8, none⟩ = some (.slice b8 0 b8') ∧ w4.cell? ad3 = some (.int .i64 1) ∧ w4.cell? ⟨ad3.block, ad3.off + 1, none⟩ = some (.int .i64 0) ∧ w4.cell? ⟨ad3.block, ad3.off + 2, none⟩ = some (.int .i64 1) ∧ w4.cell? ⟨ad3.block, ad3.off + 3, none⟩ = some (.int .i64 0) ∧ w4.cell? ⟨ad3.block, ad3.off + 4, none⟩ = some (.int .i64 0) ∧ w4.cell? ⟨ad3.block, ad3.off + 5, none⟩ = some (.int .i64 0) ∧ w4.cell? ⟨ad3.block, ad3.off + 6, none⟩ = some (.int .i64 0) ∧ w4.cell? ⟨ad3.block, ad3.off + 7, none⟩ = some (.slice zM 1 zm) := ⟨(hb4.cell (World.block_lt_of_cell? _ _ (hHeld.1))).trans (hHeld.1), (hb4.cell (World.block_lt_of_cell? _ _ (hHeld.2.1))).trans (hHeld.2.1), (hb4.cell (World.block_lt_of_cell? _ _ (hHeld.2.2.1))).trans (hHeld.2.2.1), (hb4.cell (World.block_lt_of_cell? _ _ (hHeld.2.2.2.1))).trans (hHeld.2.2.2.1), (hb4.cell (World.block_lt_of_cell? _ _ (hHeld.2.2.2.2.1))).trans (hHeld.2.2.2.2.1), (hb4.cell (World.block_lt_of_cell? _ _ (hHeld.2.2.2.2.2.1))).trans (hHeld.2.2.2.2.2.1), (hb4.cell (World.block_lt_of_cell? _ _ (hHeld.2.2.2.2.2.2.1))).trans (hHeld.2.2.2.2.2.2.1), (hb4.cell (World.block_lt_of_cell? _ _ (hHeld.2.2.2.2.2.2.2.1))).trans (hHeld.2.2.2.2.2.2.2.1), (hb4.cell (World.block_lt_of_cell? _ _ (hHeld.2.2.2.2.2.2.2.2.1))).trans (hHeld.2.2.2.2.2.2.2.2.1), (hb4.cell (World.block_lt_of_cell? _ _ (hHeld.2.2.2.2.2.2.2.2.2.1))).trans (hHeld.2.2.2.2.2.2.2.2.2.1), (hb4.cell (World.block_lt_of_cell? _ _ (hHeld.2.2.2.2.2.2.2.2.2.2.1))).trans (hHeld.2.2.2.2.2.2.2.2.2.2.1), (hb4.cell (World.block_lt_of_cell? _ _ (hHeld.2.2.2.2.2.2.2.2.2.2.2.1))).trans (hHeld.2.2.2.2.2.2.2.2.2.2.2.1), (hb4.cell (World.block_lt_of_cell? _ _ (hHeld.2.2.2.2.2.2.2.2.2.2.2.2.1))).trans (hHeld.2.2.2.2.2.2.2.2.2.2.2.2.1), (hb4.cell (World.block_lt_of_cell? _ _ (hHeld.2.2.2.2.2.2.2.2.2.2.2.2.2.1))).trans (hHeld.2.2.2.2.2.2.2.2.2.2.2.2.2.1), (hb4.cell (World.block_lt_of_cell? _ _ (hHeld.2.2.2.2.2.2.2.2.2.2.2.2.2.2.1))).trans (hHeld.2.2.2.2.2.2.2.2.2.2.2.2.2.2.1), (hb4.cell (World.block_lt_of_cell? _ _ (hHeld.2.2.2.2.2.2.2.2.2.2.2.2.2.2.2.1))).trans (hHeld.2.2.2.2.2.2.2.2.2.2.2.2.2.2.2.1), (hb4.cell (World.block_lt_of_cell? _ _ (hHeld.2.2.2.2.2.2.2.2.2.2.2.2.2.2.2.2))).trans (hHeld.2.2.2.2.2.2.2.2.2.2.2.2.2.2.2.2)⟩
      have HF4 := HS'.out.but_new hg hb4
      have HB4 := Aside0.mk (below_step HB'.out hb4)
      have hz5 : w0_6.heap.size ≤ gd := Nat.le_of_eq hg.symm
      have hz6 : gd < w4.heap.size := blk_lt hbox
      refine hK.out _ _ hS4 (fun hHeld => ?_)
      clear hK K hS4
      refine norm_ (a' := ?_) ?_ ?_
      rotate_left
      · show Act.put _ (some 8) _ = _
        simp only [Act.put, List.setIfInBounds_toArray, List.set_cons_zero, List.set_cons_succ, i64_w, i32_w]
        rfl
      refine one_ (i := 4) (N := some 68) #[true, true, true, true, true, false, false, false, false, true, false, false, false] rfl rfl (one_of HT_.out (by kernel_rfl)) (by decide) (fun K hK => ?_)
      refine goes_ Try.func8 (by kernel_rfl) rfl #[.agg #[.int .i64 1, .int .i64 3, .int .i64 0, .int .i64 0, .bool true, .int .i64 0, .slice b6 0 b6', .slice b7 3 b7', .slice b8 0 b8'], .agg #[.int .i64 1, .int .i64 0, .int .i64 1, .int .i64 0, .int .i64 0, .int .i64 0, .int .i64 0, .slice zM 1 zm]] (by rfl) rfl rfl (by (try simp only [List.map_toArray, List.map_cons, List.map_nil]); first | done | rfl) ?_
      with_reducible refine (w_handle1 _ _ _ _ _ _ _ zM zm (HF4.here).2.2.1 (Kd.C_below HZ'.out hb4) HZL.out).mono ?_
      rintro e w5 ⟨d6, d6', d7, d7', d8, d8', s6, s6', rfl, hA, h9, hC, hb, hKK⟩
      refine ⟨_, rfl, ?_⟩
      have hS5 : w5.cell? ⟨w2.heap.size, 0, none⟩ = some (.int .i64 1) ∧ w5.cell? ⟨w2.heap.size, 1, none⟩ = some (.int .i64 3) ∧ w5.cell? ⟨w2.heap.size, 2, none⟩ = some (.int .i64 0) ∧ w5.cell? ⟨w2.heap.size, 3, none⟩ = some (.int .i64 0) ∧ w5.cell? ⟨w2.heap.size, 4, none⟩ = some (.bool true) ∧ w5.cell? ⟨w2.heap.size, 5, none⟩ = some (.int .i64 0) ∧ w5.cell? ⟨w2.heap.size, 6, none⟩ = some (.slice b6 0 b6') ∧ w5.cell? ⟨w2.heap.size, 7, none⟩ = some (.slice b7 3 b7') ∧ w5.cell? ⟨w2.heap.size, 8, none⟩ = some (.slice b8 0 b8') ∧ w5.cell? ad3 = some (.int .i64 1) ∧ w5.cell? ⟨ad3.block, ad3.off + 1, none⟩ = some (.int .i64 0) ∧ w5.cell? ⟨ad3.block, ad3.off + 2, none⟩ = some (.int .i64 1) ∧ w5.cell? ⟨ad3.block, ad3.off + 3, none⟩ = some (.int .i64 0) ∧ w5.cell? ⟨ad3.block, ad3.off + 4, none⟩ = some (.int .i64 0) ∧ w5.cell? ⟨ad3.block, ad3.off + 5, none⟩ = some (.int .i64 0) ∧ w5.cell? ⟨ad3.block, ad3.off + 6, none⟩ = some (.int .i64 0) ∧ w5.cell? ⟨ad3.block, ad3.off + 7, none⟩ = some (.slice zM 1 zm) := ⟨(hb.cell (World.block_lt_of_cell? _ _ (hHeld.1))).trans (hHeld.1), (hb.cell (World.block_lt_of_cell? _ _ (hHeld.2.1))).trans (hHeld.2.1), (hb.cell (World.block_lt_of_cell? _ _ (hHeld.2.2.1))).trans (hHeld.2.2.1), (hb.cell (World.block_lt_of_cell? _ _ (hHeld.2.2.2.1))).trans (hHeld.2.2.2.1), (hb.cell (World.block_lt_of_cell? _ _ (hHeld.2.2.2.2.1))).trans (hHeld.2.2.2.2.1), (hb.cell (World.block_lt_of_cell? _ _ (hHeld.2.2.2.2.2.1))).trans (hHeld.2.2.2.2.2.1), (hb.cell (World.block_lt_of_cell? _ _ (hHeld.2.2.2.2.2.2.1))).trans (hHeld.2.2.2.2.2.2.1), (hb.cell (World.block_lt_of_cell? _ _ (hHeld.2.2.2.2.2.2.2.1))).trans (hHeld.2.2.2.2.2.2.2.1), (hb.cell (World.block_lt_of_cell? _ _ (hHeld.2.2.2.2.2.2.2.2.1))).trans (hHeld.2.2.2.2.2.2.2.2.1), (hb.cell (World.block_lt_of_cell? _ _ (hHeld.2.2.2.2.2.2.2.2.2.1))).trans (hHeld.2.2.2.2.2.2.2.2.2.1), (hb.cell (World.block_lt_of_cell? _ _ (hHeld.2.2.2.2.2.2.2.2.2.2.1))).trans (hHeld.2.2.2.2.2.2.2.2.2.2.1), (hb.cell (World.block_lt_of_cell? _ _ (hHeld.2.2.2.2.2.2.2.2.2.2.2.1))).trans (hHeld.2.2.2.2.2.2.2.2.2.2.2.1), (hb.cell (World.block_lt_of_cell? _ _ (hHeld.2.2.2.2.2.2.2.2.2.2.2.2.1))).trans (hHeld.2.2.2.2.2.2.2.2.2.2.2.2.1), (hb.cell (World.block_lt_of_cell? _ _ (hHeld.2.2.2.2.2.2.2.2.2.2.2.2.2.1))).trans (hHeld.2.2.2.2.2.2.2.2.2.2.2.2.2.1), (hb.cell (World.block_lt_of_cell? _ _ (hHeld.2.2.2.2.2.2.2.2.2.2.2.2.2.2.1))).trans (hHeld.2.2.2.2.2.2.2.2.2.2.2.2.2.2.1), (hb.cell (World.block_lt_of_cell? _ _ (hHeld.2.2.2.2.2.2.2.2.2.2.2.2.2.2.2.1))).trans (hHeld.2.2.2.2.2.2.2.2.2.2.2.2.2.2.2.1), (hb.cell (World.block_lt_of_cell? _ _ (hHeld.2.2.2.2.2.2.2.2.2.2.2.2.2.2.2.2))).trans (hHeld.2.2.2.2.2.2.2.2.2.2.2.2.2.2.2.2)⟩
      have HF5 := (HF4.below hb).and (StaysBut.of hKK hz6)
      have HB5 := below_step HB4.out hb
      have hbox' := blk_below hbox hb
      clear hA h9 hC hKK hHeld
      refine hK.out _ _ hS5 (fun hHeld => ?_)
      clear hK K hS5
      refine norm_ (a' := ?_) ?_ ?_
      rotate_left
      · show Act.put _ (some 68) _ = _
        simp only [Act.put, List.setIfInBounds_toArray, List.set_cons_zero, List.set_cons_succ, i64_w, i32_w]
        rfl
      refine pure_ (i := 5) (N := some 63) (v := ?_) (a' := ?_) #[true, true, true, true, true, true, false, false, false, true, false, false, false] rfl rfl (any_of HT_.out (by kernel_rfl)) (fun _ _ _ h => h) (Or.inl ⟨by rfl, ?_⟩) ?_ ?_
      rotate_left
      · intro w'
        go_simp
        with_reducible rfl
      rotate_left
      · simp only [Act.put, List.setIfInBounds_toArray, List.set_cons_zero, List.set_cons_succ, i64_w, i32_w]
        rfl
      refine pure_ (i := 6) (N := some 69) (v := ?_) (a' := ?_) #[true, true, true, true, true, true, true, false, false, true, false, false, false] rfl rfl (any_of HT_.out (by kernel_rfl)) (fun _ _ _ h => h) (Or.inl ⟨by rfl, ?_⟩) ?_ ?_
      rotate_left
      · intro w'
        go_simp
        with_reducible rfl
      rotate_left
      · simp only [Act.put, List.setIfInBounds_toArray, List.set_cons_zero, List.set_cons_succ, i64_w, i32_w]
        rfl
      refine pure_ (i := 7) (N := some 70) (v := ?_) (a' := ?_) #[true, true, true, true, true, true, true, true, false, true, false, false, false] rfl rfl (any_of HT_.out (by kernel_rfl)) (fun _ _ _ h => h) (Or.inl ⟨by rfl, ?_⟩) ?_ ?_
      rotate_left
      · intro w'
        go_simp
        with_reducible rfl
      rotate_left
      · simp only [Act.put, List.setIfInBounds_toArray, List.set_cons_zero, List.set_cons_succ, i64_w, i32_w]
        rfl
      refine pure_ (i := 8) (N := some 71) (v := ?_) (a' := ?_) #[true, true, true, true, true, true, true, true, true, true, false, false, false] rfl rfl (any_of HT_.out (by kernel_rfl)) (fun _ _ _ h => h) (Or.inl ⟨by rfl, ?_⟩) ?_ ?_
      rotate_left
      · intro w'
        go_simp
        with_reducible rfl
      rotate_left
      · simp only [Act.put, List.setIfInBounds_toArray, List.set_cons_zero, List.set_cons_succ, i64_w, i32_w]
        rfl
      exact norm_ (by simp only [putAll, Act.put, List.setIfInBounds_toArray, List.set_cons_zero, List.set_cons_succ]) (hCont (d6, d6', d7, d7', d8, d8', s6, s6', gd) _ ⟨hHeld, hbox', HF5.mono (fun W' h => ⟨h.1.1, h.1.2.1, h.1.2.2.1, h.1.2.2.2, h.2.1, h.2.2⟩), hz5, HB5⟩)
  rintro ⟨d6, d6', d7, d7', d8, d8', s6, s6', gd⟩ w5 ⟨hHeld, hbox, HF5, hz5, HB5⟩
  clear HS' HB' HZ'
  replace hz5 : w0_6.heap.size ≤ gd := hz5
  replace hbox : w5.heap[gd]? = some (.cells #[.int .i64 0, .int .i64 0, .int .i64 0, .int .i64 0, .bool false, .int .i64 0, .slice none 0 0, .slice none 0 0, .slice none 0 0] 26 (0, 0)) := hbox
  replace HF5 : StaysBut w5 gd (fun W => W.heap[w2.heap.size]? = some (.cells #[.int .i64 1, .int .i64 3, .int .i64 0, .int .i64 0, .bool true, .int .i64 0, .slice b6 0 b6', .slice b7 3 b7', .slice b8 0 b8'] 26 (0, 0)) ∧ W.heap[w3.heap.size]? = some (.cells #[.int .i64 0, .int .i64 3, .int .i64 0, .int .i64 0, .bool true, .int .i64 0, .slice c6 1 c6', .slice c7 3 c7', .slice c8 0 c8'] 26 (0, 0)) ∧ Arg W (⟨1, 3, 0, 0, true, 0, [], [0, 0, 0], [], []⟩ : Nod) b6 b7 b8 b6' b7' b8' ∧ Arg W (⟨0, 3, 0, 0, true, 0, [⟨#[97]⟩], [1, 0, 0], [], [⟨1, 0, 1, 0, 0, 0, 0, [⟨#[97]⟩]⟩, ⟨1, 0, 2, 0, 0, 0, 0, [⟨#[97]⟩]⟩]⟩ : Nod) c6 c7 c8 c6' c7' c8' ∧ Arg W (⟨1, 3, 0, 0, true, 0, [⟨#[97]⟩], [0, 0, 0], [], [⟨2, 1, 0, 0, 0, 0, 1, []⟩]⟩ : Nod) d6 d7 d8 d6' d7' d8' ∧ Kd.C k28 W s6 1 [(⟨2, 1, 0, 0, 0, 0, 1, []⟩ : S28)]) := HF5
  refine norm_ (a' := ?_) ?_ ?_
  rotate_left
  · simp only [putAll, Act.put, List.setIfInBounds_toArray, List.set_cons_zero, List.set_cons_succ]
    rfl
  refine one_ (i := 10) (N := none) #[true, true, true, true, true, true, true, true, true, true, true, false, false] rfl rfl (one_of HT_.out (by kernel_rfl)) (by decide) (fun K hK => ?_)
  have hs0 : w5.cell? ⟨gd, 0, none⟩ = some (.int .i64 0) := (blk_cell hbox 0).trans rfl
  have hf0 := blk_frozen hbox 0
  have hs1 : w5.cell? ⟨gd, 1, none⟩ = some (.int .i64 0) := (blk_cell hbox 1).trans rfl
  have hf1 := blk_frozen hbox 1
  have hs2 : w5.cell? ⟨gd, 2, none⟩ = some (.int .i64 0) := (blk_cell hbox 2).trans rfl
  have hf2 := blk_frozen hbox 2
  have hs3 : w5.cell? ⟨gd, 3, none⟩ = some (.int .i64 0) := (blk_cell hbox 3).trans rfl
  have hf3 := blk_frozen hbox 3
  have hs4 : w5.cell? ⟨gd, 4, none⟩ = some (.bool false) := (blk_cell hbox 4).trans rfl
  have hf4 := blk_frozen hbox 4
  have hs5 : w5.cell? ⟨gd, 5, none⟩ = some (.int .i64 0) := (blk_cell hbox 5).trans rfl
  have hf5 := blk_frozen hbox 5
  have hs6 : w5.cell? ⟨gd, 6, none⟩ = some (.slice none 0 0) := (blk_cell hbox 6).trans rfl
  have hf6 := blk_frozen hbox 6
  have hs7 : w5.cell? ⟨gd, 7, none⟩ = some (.slice none 0 0) := (blk_cell hbox 7).trans rfl
  have hf7 := blk_frozen hbox 7
  have hs8 : w5.cell? ⟨gd, 8, none⟩ = some (.slice none 0 0) := (blk_cell hbox 8).trans rfl
  have hf8 := blk_frozen hbox 8
  refine skip_ (w1 := ?_) (by rfl) rfl ?_ ?_
  rotate_left
  · go_simp
    rfl
  have hP := put9 hbox (.int .i64 1) (.int .i64 3) (.int .i64 0) (.int .i64 0) (.bool true) (.int .i64 0) (.slice d6 1 d6') (.slice d7 3 d7') (.slice d8 0 d8')
  refine hK.out _ _ ⟨(World.cell?_of_block (w := w5) (hP.2 _ (by show w2.heap.size ≠ gd; omega))).trans (hHeld.1), (World.cell?_of_block (w := w5) (hP.2 _ (by show w2.heap.size ≠ gd; omega))).trans (hHeld.2.1), (World.cell?_of_block (w := w5) (hP.2 _ (by show w2.heap.size ≠ gd; omega))).trans (hHeld.2.2.1), (World.cell?_of_block (w := w5) (hP.2 _ (by show w2.heap.size ≠ gd; omega))).trans (hHeld.2.2.2.1), (World.cell?_of_block (w := w5) (hP.2 _ (by show w2.heap.size ≠ gd; omega))).trans (hHeld.2.2.2.2.1), (World.cell?_of_block (w := w5) (hP.2 _ (by show w2.heap.size ≠ gd; omega))).trans (hHeld.2.2.2.2.2.1), (World.cell?_of_block (w := w5) (hP.2 _ (by show w2.heap.size ≠ gd; omega))).trans (hHeld.2.2.2.2.2.2.1), (World.cell?_of_block (w := w5) (hP.2 _ (by show w2.heap.size ≠ gd; omega))).trans (hHeld.2.2.2.2.2.2.2.1), (World.cell?_of_block (w := w5) (hP.2 _ (by show w2.heap.size ≠ gd; omega))).trans (hHeld.2.2.2.2.2.2.2.2.1), (World.cell?_of_block (w := w5) (hP.2 _ (by show ad3.block ≠ gd; omega))).trans (hHeld.2.2.2.2.2.2.2.2.2.1), (World.cell?_of_block (w := w5) (hP.2 _ (by show ad3.block ≠ gd; omega))).trans (hHeld.2.2.2.2.2.2.2.2.2.2.1), (World.cell?_of_block (w := w5) (hP.2 _ (by show ad3.block ≠ gd; omega))).trans (hHeld.2.2.2.2.2.2.2.2.2.2.2.1), (World.cell?_of_block (w := w5) (hP.2 _ (by show ad3.block ≠ gd; omega))).trans (hHeld.2.2.2.2.2.2.2.2.2.2.2.2.1), (World.cell?_of_block (w := w5) (hP.2 _ (by show ad3.block ≠ gd; omega))).trans (hHeld.2.2.2.2.2.2.2.2.2.2.2.2.2.1), (World.cell?_of_block (w := w5) (hP.2 _ (by show ad3.block ≠ gd; omega))).trans (hHeld.2.2.2.2.2.2.2.2.2.2.2.2.2.2.1), (World.cell?_of_block (w := w5) (hP.2 _ (by show ad3.block ≠ gd; omega))).trans (hHeld.2.2.2.2.2.2.2.2.2.2.2.2.2.2.2.1), (World.cell?_of_block (w := w5) (hP.2 _ (by show ad3.block ≠ gd; omega))).trans (hHeld.2.2.2.2.2.2.2.2.2.2.2.2.2.2.2.2)⟩ (fun _ => ?_)
  clear hK K
  have HS := Aside0.mk (HF5.put (W1 := (((((((((w5.setCell ⟨gd, 0, none⟩ (.int .i64 1)).setCell ⟨gd, 1, none⟩ (.int .i64 3)).setCell ⟨gd, 2, none⟩ (.int .i64 0)).setCell ⟨gd, 3, none⟩ (.int .i64 0)).setCell ⟨gd, 4, none⟩ (.bool true)).setCell ⟨gd, 5, none⟩ (.int .i64 0)).setCell ⟨gd, 6, none⟩ (.slice d6 1 d6')).setCell ⟨gd, 7, none⟩ (.slice d7 3 d7')).setCell ⟨gd, 8, none⟩ (.slice d8 0 d8'))) (by simp [World.setCell]) hP.1 hP.2)
  have HB := Aside0.mk (put9_below HB5 (g := gd) (by have := HB0.out; omega) (.int .i64 1) (.int .i64 3) (.int .i64 0) (.int .i64 0) (.bool true) (.int .i64 0) (.slice d6 1 d6') (.slice d7 3 d7') (.slice d8 0 d8'))
  clear hP HF5 HB5 hbox hHeld hz5 hgin' had' hs0 hf0 hs1 hf1 hs2 hf2 hs3 hf3 hs4 hf4 hs5 hf5 hs6 hf6 hs7 hf7 hs8 hf8
  generalize (((((((((w5.setCell ⟨gd, 0, none⟩ (.int .i64 1)).setCell ⟨gd, 1, none⟩ (.int .i64 3)).setCell ⟨gd, 2, none⟩ (.int .i64 0)).setCell ⟨gd, 3, none⟩ (.int .i64 0)).setCell ⟨gd, 4, none⟩ (.bool true)).setCell ⟨gd, 5, none⟩ (.int .i64 0)).setCell ⟨gd, 6, none⟩ (.slice d6 1 d6')).setCell ⟨gd, 7, none⟩ (.slice d7 3 d7')).setCell ⟨gd, 8, none⟩ (.slice d8 0 d8')) = wd at HS HB ⊢
  refine pure_ (i := 11) (N := some 9) (v := ?_) (a' := ?_) #[true, true, true, true, true, true, true, true, true, true, true, true, false] rfl rfl (any_of HT_.out (by kernel_rfl)) (fun _ _ _ h => h) (Or.inl ⟨by rfl, ?_⟩) ?_ ?_
  rotate_left
  · intro w'
    go_simp
    with_reducible rfl
  rotate_left
  · simp only [Act.put, List.setIfInBounds_toArray, List.set_cons_zero, List.set_cons_succ, i64_w, i32_w]
    rfl
  refine pure_ (i := 12) (N := some 10) (v := ?_) (a' := ?_) #[true, true, true, true, true, true, true, true, true, true, true, true, true] rfl rfl (any_of HT_.out (by kernel_rfl)) (fun _ _ _ h => h) (Or.inl ⟨by rfl, ?_⟩) ?_ ?_
  rotate_left
  · intro w'
    go_simp
    with_reducible rfl
  rotate_left
  · simp only [Act.put, List.setIfInBounds_toArray, List.set_cons_zero, List.set_cons_succ, i64_w, i32_w]
    rfl
  refine done_ (done_of HT_.out (by kernel_rfl)) ?_
  clear HT_ HW_
  clear HZL HB0
  have q0 : wd.cell? ⟨w3.heap.size, 0, none⟩ = some (.int .i64 0) := blk_cell HS.out.here.2.2.1 0
  have q1 : wd.cell? ⟨w3.heap.size, 1, none⟩ = some (.int .i64 3) := blk_cell HS.out.here.2.2.1 1
  have q2 : wd.cell? ⟨w3.heap.size, 2, none⟩ = some (.int .i64 0) := blk_cell HS.out.here.2.2.1 2
  have q3 : wd.cell? ⟨w3.heap.size, 3, none⟩ = some (.int .i64 0) := blk_cell HS.out.here.2.2.1 3
  have q4 : wd.cell? ⟨w3.heap.size, 4, none⟩ = some (.bool true) := blk_cell HS.out.here.2.2.1 4
  have q5 : wd.cell? ⟨w3.heap.size, 5, none⟩ = some (.int .i64 0) := blk_cell HS.out.here.2.2.1 5
  have q6 : wd.cell? ⟨w3.heap.size, 6, none⟩ = some (.slice c6 1 c6') := blk_cell HS.out.here.2.2.1 6
  have q7 : wd.cell? ⟨w3.heap.size, 7, none⟩ = some (.slice c7 3 c7') := blk_cell HS.out.here.2.2.1 7
  have q8 : wd.cell? ⟨w3.heap.size, 8, none⟩ = some (.slice c8 0 c8') := blk_cell HS.out.here.2.2.1 8
  obtain ⟨ad6, yM, ym, ze, z0, z1, z2, z3, z4, z5, z6, z7, zl, zh⟩ := at_T28 HS.out.here.2.2.2.2.2.2 0 (by decide) (by decide)
  cases ze
  simp only [show (0 : Int).toNat = 0 from rfl, Nat.zero_mul, Nat.one_mul] at z0 z1 z2 z3 z4 z5 z6 z7
  change _ = some (Value.int .i64 2) at z0
  change _ = some (Value.int .i64 1) at z1
  change _ = some (Value.int .i64 0) at z2
  change _ = some (Value.int .i64 0) at z3
  change _ = some (Value.int .i64 0) at z4
  change _ = some (Value.int .i64 0) at z5
  change _ = some (Value.int .i64 1) at z6
  change _ = some (Value.slice yM 0 ym) at z7
  rw [show ad6.add 0 = ad6 from rfl] at z0 z1 z2 z3 z4 z5 z6 z7
  have HZ := Aside0.mk (show Kd.C Kd.string wd yM 0 [] from zh)
  have HZL := Aside0.mk (show 0 ≤ ym from zl)
  clear zh zl
  replace HS := Aside0.mk (show Stays wd (fun W => W.heap[w2.heap.size]? = some (.cells #[.int .i64 1, .int .i64 3, .int .i64 0, .int .i64 0, .bool true, .int .i64 0, .slice b6 0 b6', .slice b7 3 b7', .slice b8 0 b8'] 26 (0, 0)) ∧ W.heap[gd]? = some (.cells #[.int .i64 1, .int .i64 3, .int .i64 0, .int .i64 0, .bool true, .int .i64 0, .slice d6 1 d6', .slice d7 3 d7', .slice d8 0 d8'] 26 (0, 0)) ∧ Arg W (⟨1, 3, 0, 0, true, 0, [], [0, 0, 0], [], []⟩ : Nod) b6 b7 b8 b6' b7' b8' ∧ Arg W (⟨1, 3, 0, 0, true, 0, [⟨#[97]⟩], [0, 0, 0], [], [⟨2, 1, 0, 0, 0, 0, 1, []⟩]⟩ : Nod) d6 d7 d8 d6' d7' d8' ∧ Arg W (⟨0, 3, 0, 0, true, 0, [⟨#[97]⟩], [1, 0, 0], [], [⟨1, 0, 1, 0, 0, 0, 0, [⟨#[97]⟩]⟩, ⟨1, 0, 2, 0, 0, 0, 0, [⟨#[97]⟩]⟩]⟩ : Nod) c6 c7 c8 c6' c7' c8') from HS.out.mono (fun W' h => ⟨h.2.1, h.1, h.2.2.2.1, h.2.2.2.2.2.1, h.2.2.2.2.1⟩))
  go_wp2_with (fail)
  refine start_ (n := 13) (S := fun w' => w'.cell? ⟨w3.heap.size, 0, none⟩ = some (.int .i64 0) ∧ w'.cell? ⟨w3.heap.size, 1, none⟩ = some (.int .i64 3) ∧ w'.cell? ⟨w3.heap.size, 2, none⟩ = some (.int .i64 0) ∧ w'.cell? ⟨w3.heap.size, 3, none⟩ = some (.int .i64 0) ∧ w'.cell? ⟨w3.heap.size, 4, none⟩ = some (.bool true) ∧ w'.cell? ⟨w3.heap.size, 5, none⟩ = some (.int .i64 0) ∧ w'.cell? ⟨w3.heap.size, 6, none⟩ = some (.slice c6 1 c6') ∧ w'.cell? ⟨w3.heap.size, 7, none⟩ = some (.slice c7 3 c7') ∧ w'.cell? ⟨w3.heap.size, 8, none⟩ = some (.slice c8 0 c8') ∧ w'.cell? ad6 = some (.int .i64 2) ∧ w'.cell? ⟨ad6.block, ad6.off + 1, none⟩ = some (.int .i64 1) ∧ w'.cell? ⟨ad6.block, ad6.off + 2, none⟩ = some (.int .i64 0) ∧ w'.cell? ⟨ad6.block, ad6.off + 3, none⟩ = some (.int .i64 0) ∧ w'.cell? ⟨ad6.block, ad6.off + 4, none⟩ = some (.int .i64 0) ∧ w'.cell? ⟨ad6.block, ad6.off + 5, none⟩ = some (.int .i64 0) ∧ w'.cell? ⟨ad6.block, ad6.off + 6, none⟩ = some (.int .i64 1) ∧ w'.cell? ⟨ad6.block, ad6.off + 7, none⟩ = some (.slice yM 0 ym)) (ds := []) #[false, false, false, false, false, false, false, false, false, false, false, false, false] (by kernel_rfl) rfl rfl ⟨q0, q1, q2, q3, q4, q5, q6, q7, q8, z0, z1, z2, z3, z4, z5, z6, z7⟩ (fun hHeld => ?_)
  refine with_tabW wk_tab9 wk_bits9 (fun HT_ HW_ => ?_)
  have HS' : Aside0 (Stays wd.drew (fun W => W.heap[w2.heap.size]? = some (.cells #[.int .i64 1, .int .i64 3, .int .i64 0, .int .i64 0, .bool true, .int .i64 0, .slice b6 0 b6', .slice b7 3 b7', .slice b8 0 b8'] 26 (0, 0)) ∧ W.heap[gd]? = some (.cells #[.int .i64 1, .int .i64 3, .int .i64 0, .int .i64 0, .bool true, .int .i64 0, .slice d6 1 d6', .slice d7 3 d7', .slice d8 0 d8'] 26 (0, 0)) ∧ Arg W (⟨1, 3, 0, 0, true, 0, [], [0, 0, 0], [], []⟩ : Nod) b6 b7 b8 b6' b7' b8' ∧ Arg W (⟨1, 3, 0, 0, true, 0, [⟨#[97]⟩], [0, 0, 0], [], [⟨2, 1, 0, 0, 0, 0, 1, []⟩]⟩ : Nod) d6 d7 d8 d6' d7' d8' ∧ Arg W (⟨0, 3, 0, 0, true, 0, [⟨#[97]⟩], [1, 0, 0], [], [⟨1, 0, 1, 0, 0, 0, 0, [⟨#[97]⟩]⟩, ⟨1, 0, 2, 0, 0, 0, 0, [⟨#[97]⟩]⟩]⟩ : Nod) c6 c7 c8 c6' c7' c8')) := ⟨HS.out⟩
  have HB' : Aside0 (Below w.heap.size w wd.drew) := ⟨below_drew1 HB.out⟩
  have HZ' : Aside0 (Kd.C Kd.string wd.drew yM 0 []) := ⟨HZ.out⟩
  have hgin' : w3.heap.size < wd.drew.heap.size := World.block_lt_of_cell? _ _ hHeld.1
  have had' : ad6.block < wd.drew.heap.size := World.block_lt_of_cell? _ _ hHeld.2.2.2.2.2.2.2.2.2.1
  clear HS HB HZ q0 q1 q2 q3 q4 q5 q6 q7 q8 z0 z1 z2 z3 z4 z5 z6 z7
  generalize wd.drew = w0_9 at HS' HB' HZ' hgin' had' hHeld ⊢
  have HB0 := Aside0.mk (below_size HB'.out)
  refine pure_ (i := 1) (N := some 95) (v := ?_) (a' := ?_) #[false, true, false, false, false, false, false, false, false, false, false, false, false] rfl rfl (any_of HT_.out (by kernel_rfl)) (fun _ _ _ h => h) (Or.inl ⟨by rfl, ?_⟩) ?_ ?_
  rotate_left
  · intro w'
    go_simp
    with_reducible rfl
  rotate_left
  · simp only [Act.put, List.setIfInBounds_toArray, List.set_cons_zero, List.set_cons_succ, i64_w, i32_w]
    rfl
  refine pure_ (i := 2) (N := some 96) (v := ?_) (a' := ?_) #[false, true, true, false, false, false, false, false, false, false, false, false, false] rfl rfl (any_of HT_.out (by kernel_rfl)) (fun _ _ _ h => h) (Or.inl ⟨by rfl, ?_⟩) ?_ ?_
  rotate_left
  · intro w'
    go_simp
    with_reducible rfl
  rotate_left
  · simp only [Act.put, List.setIfInBounds_toArray, List.set_cons_zero, List.set_cons_succ, i64_w, i32_w]
    rfl
  refine take_ (i := 0) (N := some 94) (v := ?_) (a' := ?_) #[true, true, true, false, false, false, false, false, false, false, false, false, false] rfl rfl (take_ofW HT_.out HW_.out (by kernel_rfl)) (fun _ _ _ h => h) (Or.inl ⟨by rfl, ?_⟩) hHeld ?_ ?_
  rotate_left
  · rintro w' ⟨s0, s1, s2, s3, s4, s5, s6, s7, s8, s9, s10, s11, s12, s13, s14, s15, s16⟩
    go_simp
    with_reducible rfl
  rotate_left
  · simp only [Act.put, List.setIfInBounds_toArray, List.set_cons_zero, List.set_cons_succ, i64_w, i32_w]
    rfl
  refine take_ (i := 3) (N := some 97) (v := ?_) (a' := ?_) #[true, true, true, true, false, false, false, false, false, false, false, false, false] rfl rfl (take_ofW HT_.out HW_.out (by kernel_rfl)) (fun _ _ _ h => h) (Or.inl ⟨by rfl, ?_⟩) hHeld ?_ ?_
  rotate_left
  · rintro w' ⟨s0, s1, s2, s3, s4, s5, s6, s7, s8, s9, s10, s11, s12, s13, s14, s15, s16⟩
    go_simp
    with_reducible rfl
  rotate_left
  · simp only [Act.put, List.setIfInBounds_toArray, List.set_cons_zero, List.set_cons_succ, i64_w, i32_w]
    rfl
  refine join_ (σ := Option Addr × Nat × Option Addr × Nat × Option Addr × Nat × Option Addr × Nat × Nat) 3 #[true, true, true, true, true, true, true, true, true, true, false, false, false] (fun s_ => [(98, .tuple #[.agg #[.int .i64 0, .int .i64 3, .int .i64 0, .int .i64 0, .bool true, .int .i64 1, .slice s_.1 1 s_.2.1, .slice s_.2.2.1 3 s_.2.2.2.1, .slice s_.2.2.2.2.1 0 s_.2.2.2.2.2.1], .slice s_.2.2.2.2.2.2.1 2 s_.2.2.2.2.2.2.2.1, .int .i64 0]), (11, .pointer (some ⟨s_.2.2.2.2.2.2.2.2, 0, none⟩)), (93, .tuple #[.agg #[.int .i64 0, .int .i64 3, .int .i64 0, .int .i64 0, .bool true, .int .i64 1, .slice s_.1 1 s_.2.1, .slice s_.2.2.1 3 s_.2.2.2.1, .slice s_.2.2.2.2.1 0 s_.2.2.2.2.2.1], .slice s_.2.2.2.2.2.2.1 2 s_.2.2.2.2.2.2.2.1, .int .i64 0]), (99, .agg #[.int .i64 0, .int .i64 3, .int .i64 0, .int .i64 0, .bool true, .int .i64 1, .slice s_.1 1 s_.2.1, .slice s_.2.2.1 3 s_.2.2.2.1, .slice s_.2.2.2.2.1 0 s_.2.2.2.2.2.1]), (100, .slice s_.2.2.2.2.2.2.1 2 s_.2.2.2.2.2.2.2.1), (101, .int .i64 0)]) (fun s_ w' => (w'.cell? ⟨w3.heap.size, 0, none⟩ = some (.int .i64 0) ∧ w'.cell? ⟨w3.heap.size, 1, none⟩ = some (.int .i64 3) ∧ w'.cell? ⟨w3.heap.size, 2, none⟩ = some (.int .i64 0) ∧ w'.cell? ⟨w3.heap.size, 3, none⟩ = some (.int .i64 0) ∧ w'.cell? ⟨w3.heap.size, 4, none⟩ = some (.bool true) ∧ w'.cell? ⟨w3.heap.size, 5, none⟩ = some (.int .i64 0) ∧ w'.cell? ⟨w3.heap.size, 6, none⟩ = some (.slice c6 1 c6') ∧ w'.cell? ⟨w3.heap.size, 7, none⟩ = some (.slice c7 3 c7') ∧ w'.cell? ⟨w3.heap.size, 8, none⟩ = some (.slice c8 0 c8') ∧ w'.cell? ad6 = some (.int .i64 2) ∧ w'.cell? ⟨ad6.block, ad6.off + 1, none⟩ = some (.int .i64 1) ∧ w'.cell? ⟨ad6.block, ad6.off + 2, none⟩ = some (.int .i64 0) ∧ w'.cell? ⟨ad6.block, ad6.off + 3, none⟩ = some (.int .i64 0) ∧ w'.cell? ⟨ad6.block, ad6.off + 4, none⟩ = some (.int .i64 0) ∧ w'.cell? ⟨ad6.block, ad6.off + 5, none⟩ = some (.int .i64 0) ∧ w'.cell? ⟨ad6.block, ad6.off + 6, none⟩ = some (.int .i64 1) ∧ w'.cell? ⟨ad6.block, ad6.off + 7, none⟩ = some (.slice yM 0 ym)) ∧ (w'.heap[s_.2.2.2.2.2.2.2.2]? = some (.cells #[.int .i64 0, .int .i64 0, .int .i64 0, .int .i64 0, .bool false, .int .i64 0, .slice none 0 0, .slice none 0 0, .slice none 0 0] 26 (0, 0))) ∧ (StaysBut w' s_.2.2.2.2.2.2.2.2 (fun W => W.heap[w2.heap.size]? = some (.cells #[.int .i64 1, .int .i64 3, .int .i64 0, .int .i64 0, .bool true, .int .i64 0, .slice b6 0 b6', .slice b7 3 b7', .slice b8 0 b8'] 26 (0, 0)) ∧ W.heap[gd]? = some (.cells #[.int .i64 1, .int .i64 3, .int .i64 0, .int .i64 0, .bool true, .int .i64 0, .slice d6 1 d6', .slice d7 3 d7', .slice d8 0 d8'] 26 (0, 0)) ∧ Arg W (⟨1, 3, 0, 0, true, 0, [], [0, 0, 0], [], []⟩ : Nod) b6 b7 b8 b6' b7' b8' ∧ Arg W (⟨1, 3, 0, 0, true, 0, [⟨#[97]⟩], [0, 0, 0], [], [⟨2, 1, 0, 0, 0, 0, 1, []⟩]⟩ : Nod) d6 d7 d8 d6' d7' d8' ∧ Arg W (⟨0, 3, 0, 0, true, 0, [⟨#[97]⟩], [1, 0, 0], [], [⟨1, 0, 1, 0, 0, 0, 0, [⟨#[97]⟩]⟩, ⟨1, 0, 2, 0, 0, 0, 0, [⟨#[97]⟩]⟩]⟩ : Nod) c6 c7 c8 c6' c7' c8' ∧ Arg W (⟨0, 3, 0, 0, true, 1, [⟨#[97]⟩], [1, 1, 0], [], [⟨1, 0, 1, 0, 0, 1, 0, [⟨#[97]⟩]⟩, ⟨1, 0, 2, 0, 0, 1, 0, [⟨#[97]⟩]⟩]⟩ : Nod) s_.1 s_.2.2.1 s_.2.2.2.2.1 s_.2.1 s_.2.2.2.1 s_.2.2.2.2.2.1 ∧ Kd.C k28 W s_.2.2.2.2.2.2.1 2 [(⟨1, 0, 1, 0, 0, 1, 0, [⟨#[97]⟩]⟩ : S28), ⟨1, 0, 2, 0, 0, 1, 0, [⟨#[97]⟩]⟩])) ∧ (w0_9.heap.size ≤ s_.2.2.2.2.2.2.2.2) ∧ (Below w.heap.size w w')) ?_ ?_
  rotate_left
  · intro hCont
    refine two_ (i := 4) (j := 9) (Ni := some 98) (Nj := some 11) #[true, true, true, true, true, false, false, false, false, false, false, false, false] #[true, true, true, true, false, false, false, false, false, true, false, false, false] rfl rfl rfl rfl (two_of HT_.out (by kernel_rfl)) (by decide) (by decide) (fun K hK => ?_) (fun K hK => ?_)
    · skip
      refine goes_ Try.func8 (by kernel_rfl) rfl #[.agg #[.int .i64 0, .int .i64 3, .int .i64 0, .int .i64 0, .bool true, .int .i64 0, .slice c6 1 c6', .slice c7 3 c7', .slice c8 0 c8'], .agg #[.int .i64 2, .int .i64 1, .int .i64 0, .int .i64 0, .int .i64 0, .int .i64 0, .int .i64 1, .slice yM 0 ym]] (by rfl) rfl rfl (by (try simp only [List.map_toArray, List.map_cons, List.map_nil]); first | done | rfl) ?_
      with_reducible refine (w_handle2 _ _ _ _ _ _ _ yM ym (HS'.out.here).2.2.2.2 HZ'.out HZL.out).mono ?_
      rintro e w4 ⟨x6, x6', x7, x7', x8, x8', u6, u6', rfl, hA, h9, hC, hb, hKK⟩
      refine ⟨_, rfl, ?_⟩
      have hS4 : w4.cell? ⟨w3.heap.size, 0, none⟩ = some (.int .i64 0) ∧ w4.cell? ⟨w3.heap.size, 1, none⟩ = some (.int .i64 3) ∧ w4.cell? ⟨w3.heap.size, 2, none⟩ = some (.int .i64 0) ∧ w4.cell? ⟨w3.heap.size, 3, none⟩ = some (.int .i64 0) ∧ w4.cell? ⟨w3.heap.size, 4, none⟩ = some (.bool true) ∧ w4.cell? ⟨w3.heap.size, 5, none⟩ = some (.int .i64 0) ∧ w4.cell? ⟨w3.heap.size, 6, none⟩ = some (.slice c6 1 c6') ∧ w4.cell? ⟨w3.heap.size, 7, none⟩ = some (.slice c7 3 c7') ∧ w4.cell? ⟨w3.heap.size, 8, none⟩ = some (.slice c8 0 c8') ∧ w4.cell? ad6 = some (.int .i64 2) ∧ w4.cell? ⟨ad6.block, ad6.off + 1, none⟩ = some (.int .i64 1) ∧ w4.cell? ⟨ad6.block, ad6.off + 2, none⟩ = some (.int .i64 0) ∧ w4.cell? ⟨ad6.block, ad6.off + 3, none⟩ = some (.int .i64 0) ∧ w4.cell? ⟨ad6.block, ad6.off + 4, none⟩ = some (.int .i64 0) ∧ w4.cell? ⟨ad6.block, ad6.off + 5, none⟩ = some (.int .i64 0) ∧ w4.cell? ⟨ad6.block, ad6.off + 6, none⟩ = some (.int .i64 1) ∧ w4.cell? ⟨ad6.block, ad6.off + 7, none⟩ = some (.slice yM 0 ym) := ⟨(hb.cell (World.block_lt_of_cell? _ _ (hHeld.1))).trans (hHeld.1), (hb.cell (World.block_lt_of_cell? _ _ (hHeld.2.1))).trans (hHeld.2.1), (hb.cell (World.block_lt_of_cell? _ _ (hHeld.2.2.1))).trans (hHeld.2.2.1), (hb.cell (World.block_lt_of_cell? _ _ (hHeld.2.2.2.1))).trans (hHeld.2.2.2.1), (hb.cell (World.block_lt_of_cell? _ _ (hHeld.2.2.2.2.1))).trans (hHeld.2.2.2.2.1), (hb.cell (World.block_lt_of_cell? _ _ (hHeld.2.2.2.2.2.1))).trans (hHeld.2.2.2.2.2.1), (hb.cell (World.block_lt_of_cell? _ _ (hHeld.2.2.2.2.2.2.1))).trans (hHeld.2.2.2.2.2.2.1), (hb.cell (World.block_lt_of_cell? _ _ (hHeld.2.2.2.2.2.2.2.1))).trans (hHeld.2.2.2.2.2.2.2.1), (hb.cell (World.block_lt_of_cell? _ _ (hHeld.2.2.2.2.2.2.2.2.1))).trans (hHeld.2.2.2.2.2.2.2.2.1), (hb.cell (World.block_lt_of_cell? _ _ (hHeld.2.2.2.2.2.2.2.2.2.1))).trans (hHeld.2.2.2.2.2.2.2.2.2.1), (hb.cell (World.block_lt_of_cell? _ _ (hHeld.2.2.2.2.2.2.2.2.2.2.1))).trans (hHeld.2.2.2.2.2.2.2.2.2.2.1), (hb.cell (World.block_lt_of_cell? _ _ (hHeld.2.2.2.2.2.2.2.2.2.2.2.1))).trans (hHeld.2.2.2.2.2.2.2.2.2.2.2.1), (hb.cell (World.block_lt_of_cell? _ _ (hHeld.2.2.2.2.2.2.2.2.2.2.2.2.1))).trans (hHeld.2.2.2.2.2.2.2.2.2.2.2.2.1), (hb.cell (World.block_lt_of_cell? _ _ (hHeld.2.2.2.2.2.2.2.2.2.2.2.2.2.1))).trans (hHeld.2.2.2.2.2.2.2.2.2.2.2.2.2.1), (hb.cell (World.block_lt_of_cell? _ _ (hHeld.2.2.2.2.2.2.2.2.2.2.2.2.2.2.1))).trans (hHeld.2.2.2.2.2.2.2.2.2.2.2.2.2.2.1), (hb.cell (World.block_lt_of_cell? _ _ (hHeld.2.2.2.2.2.2.2.2.2.2.2.2.2.2.2.1))).trans (hHeld.2.2.2.2.2.2.2.2.2.2.2.2.2.2.2.1), (hb.cell (World.block_lt_of_cell? _ _ (hHeld.2.2.2.2.2.2.2.2.2.2.2.2.2.2.2.2))).trans (hHeld.2.2.2.2.2.2.2.2.2.2.2.2.2.2.2.2)⟩
      have HS4 := Aside0.mk ((HS'.out.below hb).and (Stays.of hKK))
      have HB4 := Aside0.mk (below_step HB'.out hb)
      have hz4 := hb.size
      clear hA h9 hC hb hKK hHeld
      refine hK.out _ _ hS4 (fun hHeld => ?_)
      clear hK K hS4
      refine norm_ (a' := ?_) ?_ ?_
      rotate_left
      · show Act.put _ (some 98) _ = _
        simp only [Act.put, List.setIfInBounds_toArray, List.set_cons_zero, List.set_cons_succ, i64_w, i32_w]
        rfl
      refine pure_ (i := 5) (N := some 93) (v := ?_) (a' := ?_) #[true, true, true, true, true, true, false, false, false, false, false, false, false] rfl rfl (any_of HT_.out (by kernel_rfl)) (fun _ _ _ h => h) (Or.inl ⟨by rfl, ?_⟩) ?_ ?_
      rotate_left
      · intro w'
        go_simp
        with_reducible rfl
      rotate_left
      · simp only [Act.put, List.setIfInBounds_toArray, List.set_cons_zero, List.set_cons_succ, i64_w, i32_w]
        rfl
      refine pure_ (i := 6) (N := some 99) (v := ?_) (a' := ?_) #[true, true, true, true, true, true, true, false, false, false, false, false, false] rfl rfl (any_of HT_.out (by kernel_rfl)) (fun _ _ _ h => h) (Or.inl ⟨by rfl, ?_⟩) ?_ ?_
      rotate_left
      · intro w'
        go_simp
        with_reducible rfl
      rotate_left
      · simp only [Act.put, List.setIfInBounds_toArray, List.set_cons_zero, List.set_cons_succ, i64_w, i32_w]
        rfl
      refine pure_ (i := 7) (N := some 100) (v := ?_) (a' := ?_) #[true, true, true, true, true, true, true, true, false, false, false, false, false] rfl rfl (any_of HT_.out (by kernel_rfl)) (fun _ _ _ h => h) (Or.inl ⟨by rfl, ?_⟩) ?_ ?_
      rotate_left
      · intro w'
        go_simp
        with_reducible rfl
      rotate_left
      · simp only [Act.put, List.setIfInBounds_toArray, List.set_cons_zero, List.set_cons_succ, i64_w, i32_w]
        rfl
      refine pure_ (i := 8) (N := some 101) (v := ?_) (a' := ?_) #[true, true, true, true, true, true, true, true, true, false, false, false, false] rfl rfl (any_of HT_.out (by kernel_rfl)) (fun _ _ _ h => h) (Or.inl ⟨by rfl, ?_⟩) ?_ ?_
      rotate_left
      · intro w'
        go_simp
        with_reducible rfl
      rotate_left
      · simp only [Act.put, List.setIfInBounds_toArray, List.set_cons_zero, List.set_cons_succ, i64_w, i32_w]
        rfl
      refine one_ (i := 9) (N := some 11) #[true, true, true, true, true, true, true, true, true, true, false, false, false] rfl rfl (one_of HT_.out (by kernel_rfl)) (by decide) (fun K hK => ?_)
      refine box_step ?hg (N := 11) ?hd (cs := #[.int .i64 0, .int .i64 0, .int .i64 0, .int .i64 0, .bool false, .int .i64 0, .slice none 0 0, .slice none 0 0, .slice none 0 0]) (t := 26) ?hr ?_; (case hd => rfl); (case hg => rfl); (case hr => first | (go_simp; done) | (go_simp; rfl))
      intro gx hg w5 hbox' hb
      have hS5 : w5.cell? ⟨w3.heap.size, 0, none⟩ = some (.int .i64 0) ∧ w5.cell? ⟨w3.heap.size, 1, none⟩ = some (.int .i64 3) ∧ w5.cell? ⟨w3.heap.size, 2, none⟩ = some (.int .i64 0) ∧ w5.cell? ⟨w3.heap.size, 3, none⟩ = some (.int .i64 0) ∧ w5.cell? ⟨w3.heap.size, 4, none⟩ = some (.bool true) ∧ w5.cell? ⟨w3.heap.size, 5, none⟩ = some (.int .i64 0) ∧ w5.cell? ⟨w3.heap.size, 6, none⟩ = some (.slice c6 1 c6') ∧ w5.cell? ⟨w3.heap.size, 7, none⟩ = some (.slice c7 3 c7') ∧ w5.cell? ⟨w3.heap.size, 8, none⟩ = some (.slice c8 0 c8') ∧ w5.cell? ad6 = some (.int .i64 2) ∧ w5.cell? ⟨ad6.block, ad6.off + 1, none⟩ = some (.int .i64 1) ∧ w5.cell? ⟨ad6.block, ad6.off + 2, none⟩ = some (.int .i64 0) ∧ w5.cell? ⟨ad6.block, ad6.off + 3, none⟩ = some (.int .i64 0) ∧ w5.cell? ⟨ad6.block, ad6.off + 4, none⟩ = some (.int .i64 0) ∧ w5.cell? ⟨ad6.block, ad6.off + 5, none⟩ = some (.int .i64 0) ∧ w5.cell? ⟨ad6.block, ad6.off + 6, none⟩ = some (.int .i64 1) ∧ w5.cell? ⟨ad6.block, ad6.off + 7, none⟩ = some (.slice yM 0 ym) := ⟨(hb.cell (World.block_lt_of_cell? _ _ (hHeld.1))).trans (hHeld.1), (hb.cell (World.block_lt_of_cell? _ _ (hHeld.2.1))).trans (hHeld.2.1), (hb.cell (World.block_lt_of_cell? _ _ (hHeld.2.2.1))).trans (hHeld.2.2.1), (hb.cell (World.block_lt_of_cell? _ _ (hHeld.2.2.2.1))).trans (hHeld.2.2.2.1), (hb.cell (World.block_lt_of_cell? _ _ (hHeld.2.2.2.2.1))).trans (hHeld.2.2.2.2.1), (hb.cell (World.block_lt_of_cell? _ _ (hHeld.2.2.2.2.2.1))).trans (hHeld.2.2.2.2.2.1), (hb.cell (World.block_lt_of_cell? _ _ (hHeld.2.2.2.2.2.2.1))).trans (hHeld.2.2.2.2.2.2.1), (hb.cell (World.block_lt_of_cell? _ _ (hHeld.2.2.2.2.2.2.2.1))).trans (hHeld.2.2.2.2.2.2.2.1), (hb.cell (World.block_lt_of_cell? _ _ (hHeld.2.2.2.2.2.2.2.2.1))).trans (hHeld.2.2.2.2.2.2.2.2.1), (hb.cell (World.block_lt_of_cell? _ _ (hHeld.2.2.2.2.2.2.2.2.2.1))).trans (hHeld.2.2.2.2.2.2.2.2.2.1), (hb.cell (World.block_lt_of_cell? _ _ (hHeld.2.2.2.2.2.2.2.2.2.2.1))).trans (hHeld.2.2.2.2.2.2.2.2.2.2.1), (hb.cell (World.block_lt_of_cell? _ _ (hHeld.2.2.2.2.2.2.2.2.2.2.2.1))).trans (hHeld.2.2.2.2.2.2.2.2.2.2.2.1), (hb.cell (World.block_lt_of_cell? _ _ (hHeld.2.2.2.2.2.2.2.2.2.2.2.2.1))).trans (hHeld.2.2.2.2.2.2.2.2.2.2.2.2.1), (hb.cell (World.block_lt_of_cell? _ _ (hHeld.2.2.2.2.2.2.2.2.2.2.2.2.2.1))).trans (hHeld.2.2.2.2.2.2.2.2.2.2.2.2.2.1), (hb.cell (World.block_lt_of_cell? _ _ (hHeld.2.2.2.2.2.2.2.2.2.2.2.2.2.2.1))).trans (hHeld.2.2.2.2.2.2.2.2.2.2.2.2.2.2.1), (hb.cell (World.block_lt_of_cell? _ _ (hHeld.2.2.2.2.2.2.2.2.2.2.2.2.2.2.2.1))).trans (hHeld.2.2.2.2.2.2.2.2.2.2.2.2.2.2.2.1), (hb.cell (World.block_lt_of_cell? _ _ (hHeld.2.2.2.2.2.2.2.2.2.2.2.2.2.2.2.2))).trans (hHeld.2.2.2.2.2.2.2.2.2.2.2.2.2.2.2.2)⟩
      have HF5 := HS4.out.but_new hg hb
      have HB5 := below_step HB4.out hb
      have hz5 : w0_9.heap.size ≤ gx := by rw [hg]; exact hz4
      refine hK.out _ _ hS5 (fun hHeld => ?_)
      clear hK K hS5
      refine norm_ (a' := ?_) ?_ ?_
      rotate_left
      · show Act.put _ (some 11) _ = _
        simp only [Act.put, List.setIfInBounds_toArray, List.set_cons_zero, List.set_cons_succ, i64_w, i32_w]
        rfl
      exact norm_ (by simp only [putAll, Act.put, List.setIfInBounds_toArray, List.set_cons_zero, List.set_cons_succ]) (hCont (x6, x6', x7, x7', x8, x8', u6, u6', gx) _ ⟨hHeld, hbox', HF5.mono (fun W' h => ⟨h.1.1, h.1.2.1, h.1.2.2.1, h.1.2.2.2.1, h.1.2.2.2.2, h.2.1, h.2.2⟩), hz5, HB5⟩)
    · skip
      refine box_step ?hg (N := 11) ?hd (cs := #[.int .i64 0, .int .i64 0, .int .i64 0, .int .i64 0, .bool false, .int .i64 0, .slice none 0 0, .slice none 0 0, .slice none 0 0]) (t := 26) ?hr ?_; (case hd => rfl); (case hg => rfl); (case hr => first | (go_simp; done) | (go_simp; rfl))
      intro gx hg w4 hbox hb4
      have hS4 : w4.cell? ⟨w3.heap.size, 0, none⟩ = some (.int .i64 0) ∧ w4.cell? ⟨w3.heap.size, 1, none⟩ = some (.int .i64 3) ∧ w4.cell? ⟨w3.heap.size, 2, none⟩ = some (.int .i64 0) ∧ w4.cell? ⟨w3.heap.size, 3, none⟩ = some (.int .i64 0) ∧ w4.cell? ⟨w3.heap.size, 4, none⟩ = some (.bool true) ∧ w4.cell? ⟨w3.heap.size, 5, none⟩ = some (.int .i64 0) ∧ w4.cell? ⟨w3.heap.size, 6, none⟩ = some (.slice c6 1 c6') ∧ w4.cell? ⟨w3.heap.size, 7, none⟩ = some (.slice c7 3 c7') ∧ w4.cell? ⟨w3.heap.size, 8, none⟩ = some (.slice c8 0 c8') ∧ w4.cell? ad6 = some (.int .i64 2) ∧ w4.cell? ⟨ad6.block, ad6.off + 1, none⟩ = some (.int .i64 1) ∧ w4.cell? ⟨ad6.block, ad6.off + 2, none⟩ = some (.int .i64 0) ∧ w4.cell? ⟨ad6.block, ad6.off + 3, none⟩ = some (.int .i64 0) ∧ w4.cell? ⟨ad6.block, ad6.off + 4, none⟩ = some (.int .i64 0) ∧ w4.cell? ⟨ad6.block, ad6.off + 5, none⟩ = some (.int .i64 0) ∧ w4.cell? ⟨ad6.block, ad6.off + 6, none⟩ = some (.int .i64 1) ∧ w4.cell? ⟨ad6.block, ad6.off + 7, none⟩ = some (.slice yM 0 ym) := ⟨(hb4.cell (World.block_lt_of_cell? _ _ (hHeld.1))).trans (hHeld.1), (hb4.cell (World.block_lt_of_cell? _ _ (hHeld.2.1))).trans (hHeld.2.1), (hb4.cell (World.block_lt_of_cell? _ _ (hHeld.2.2.1))).trans (hHeld.2.2.1), (hb4.cell (World.block_lt_of_cell? _ _ (hHeld.2.2.2.1))).trans (hHeld.2.2.2.1), (hb4.cell (World.block_lt_of_cell? _ _ (hHeld.2.2.2.2.1))).trans (hHeld.2.2.2.2.1), (hb4.cell (World.block_lt_of_cell? _ _ (hHeld.2.2.2.2.2.1))).trans (hHeld.2.2.2.2.2.1), (hb4.cell (World.block_lt_of_cell? _ _ (hHeld.2.2.2.2.2.2.1))).trans (hHeld.2.2.2.2.2.2.1), (hb4.cell (World.block_lt_of_cell? _ _ (hHeld.2.2.2.2.2.2.2.1))).trans (hHeld.2.2.2.2.2.2.2.1), (hb4.cell (World.block_lt_of_cell? _ _ (hHeld.2.2.2.2.2.2.2.2.1))).trans (hHeld.2.2.2.2.2.2.2.2.1), (hb4.cell (World.block_lt_of_cell? _ _ (hHeld.2.2.2.2.2.2.2.2.2.1))).trans (hHeld.2.2.2.2.2.2.2.2.2.1), (hb4.cell (World.block_lt_of_cell? _ _ (hHeld.2.2.2.2.2.2.2.2.2.2.1))).trans (hHeld.2.2.2.2.2.2.2.2.2.2.1), (hb4.cell (World.block_lt_of_cell? _ _ (hHeld.2.2.2.2.2.2.2.2.2.2.2.1))).trans (hHeld.2.2.2.2.2.2.2.2.2.2.2.1), (hb4.cell (World.block_lt_of_cell? _ _ (hHeld.2.2.2.2.2.2.2.2.2.2.2.2.1))).trans (hHeld.2.2.2.2.2.2.2.2.2.2.2.2.1), (hb4.cell (World.block_lt_of_cell? _ _ (hHeld.2.2.2.2.2.2.2.2.2.2.2.2.2.1))).trans (hHeld.2.2.2.2.2.2.2.2.2.2.2.2.2.1), (hb4.cell (World.block_lt_of_cell? _ _ (hHeld.2.2.2.2.2.2.2.2.2.2.2.2.2.2.1))).trans (hHeld.2.2.2.2.2.2.2.2.2.2.2.2.2.2.1), (hb4.cell (World.block_lt_of_cell? _ _ (hHeld.2.2.2.2.2.2.2.2.2.2.2.2.2.2.2.1))).trans (hHeld.2.2.2.2.2.2.2.2.2.2.2.2.2.2.2.1), (hb4.cell (World.block_lt_of_cell? _ _ (hHeld.2.2.2.2.2.2.2.2.2.2.2.2.2.2.2.2))).trans (hHeld.2.2.2.2.2.2.2.2.2.2.2.2.2.2.2.2)⟩
      have HF4 := HS'.out.but_new hg hb4
      have HB4 := Aside0.mk (below_step HB'.out hb4)
      have hz5 : w0_9.heap.size ≤ gx := Nat.le_of_eq hg.symm
      have hz6 : gx < w4.heap.size := blk_lt hbox
      refine hK.out _ _ hS4 (fun hHeld => ?_)
      clear hK K hS4
      refine norm_ (a' := ?_) ?_ ?_
      rotate_left
      · show Act.put _ (some 11) _ = _
        simp only [Act.put, List.setIfInBounds_toArray, List.set_cons_zero, List.set_cons_succ, i64_w, i32_w]
        rfl
      refine one_ (i := 4) (N := some 98) #[true, true, true, true, true, false, false, false, false, true, false, false, false] rfl rfl (one_of HT_.out (by kernel_rfl)) (by decide) (fun K hK => ?_)
      refine goes_ Try.func8 (by kernel_rfl) rfl #[.agg #[.int .i64 0, .int .i64 3, .int .i64 0, .int .i64 0, .bool true, .int .i64 0, .slice c6 1 c6', .slice c7 3 c7', .slice c8 0 c8'], .agg #[.int .i64 2, .int .i64 1, .int .i64 0, .int .i64 0, .int .i64 0, .int .i64 0, .int .i64 1, .slice yM 0 ym]] (by rfl) rfl rfl (by (try simp only [List.map_toArray, List.map_cons, List.map_nil]); first | done | rfl) ?_
      with_reducible refine (w_handle2 _ _ _ _ _ _ _ yM ym (HF4.here).2.2.2.2 (Kd.C_below HZ'.out hb4) HZL.out).mono ?_
      rintro e w5 ⟨x6, x6', x7, x7', x8, x8', u6, u6', rfl, hA, h9, hC, hb, hKK⟩
      refine ⟨_, rfl, ?_⟩
      have hS5 : w5.cell? ⟨w3.heap.size, 0, none⟩ = some (.int .i64 0) ∧ w5.cell? ⟨w3.heap.size, 1, none⟩ = some (.int .i64 3) ∧ w5.cell? ⟨w3.heap.size, 2, none⟩ = some (.int .i64 0) ∧ w5.cell? ⟨w3.heap.size, 3, none⟩ = some (.int .i64 0) ∧ w5.cell? ⟨w3.heap.size, 4, none⟩ = some (.bool true) ∧ w5.cell? ⟨w3.heap.size, 5, none⟩ = some (.int .i64 0) ∧ w5.cell? ⟨w3.heap.size, 6, none⟩ = some (.slice c6 1 c6') ∧ w5.cell? ⟨w3.heap.size, 7, none⟩ = some (.slice c7 3 c7') ∧ w5.cell? ⟨w3.heap.size, 8, none⟩ = some (.slice c8 0 c8') ∧ w5.cell? ad6 = some (.int .i64 2) ∧ w5.cell? ⟨ad6.block, ad6.off + 1, none⟩ = some (.int .i64 1) ∧ w5.cell? ⟨ad6.block, ad6.off + 2, none⟩ = some (.int .i64 0) ∧ w5.cell? ⟨ad6.block, ad6.off + 3, none⟩ = some (.int .i64 0) ∧ w5.cell? ⟨ad6.block, ad6.off + 4, none⟩ = some (.int .i64 0) ∧ w5.cell? ⟨ad6.block, ad6.off + 5, none⟩ = some (.int .i64 0) ∧ w5.cell? ⟨ad6.block, ad6.off + 6, none⟩ = some (.int .i64 1) ∧ w5.cell? ⟨ad6.block, ad6.off + 7, none⟩ = some (.slice yM 0 ym) := ⟨(hb.cell (World.block_lt_of_cell? _ _ (hHeld.1))).trans (hHeld.1), (hb.cell (World.block_lt_of_cell? _ _ (hHeld.2.1))).trans (hHeld.2.1), (hb.cell (World.block_lt_of_cell? _ _ (hHeld.2.2.1))).trans (hHeld.2.2.1), (hb.cell (World.block_lt_of_cell? _ _ (hHeld.2.2.2.1))).trans (hHeld.2.2.2.1), (hb.cell (World.block_lt_of_cell? _ _ (hHeld.2.2.2.2.1))).trans (hHeld.2.2.2.2.1), (hb.cell (World.block_lt_of_cell? _ _ (hHeld.2.2.2.2.2.1))).trans (hHeld.2.2.2.2.2.1), (hb.cell (World.block_lt_of_cell? _ _ (hHeld.2.2.2.2.2.2.1))).trans (hHeld.2.2.2.2.2.2.1), (hb.cell (World.block_lt_of_cell? _ _ (hHeld.2.2.2.2.2.2.2.1))).trans (hHeld.2.2.2.2.2.2.2.1), (hb.cell (World.block_lt_of_cell? _ _ (hHeld.2.2.2.2.2.2.2.2.1))).trans (hHeld.2.2.2.2.2.2.2.2.1), (hb.cell (World.block_lt_of_cell? _ _ (hHeld.2.2.2.2.2.2.2.2.2.1))).trans (hHeld.2.2.2.2.2.2.2.2.2.1), (hb.cell (World.block_lt_of_cell? _ _ (hHeld.2.2.2.2.2.2.2.2.2.2.1))).trans (hHeld.2.2.2.2.2.2.2.2.2.2.1), (hb.cell (World.block_lt_of_cell? _ _ (hHeld.2.2.2.2.2.2.2.2.2.2.2.1))).trans (hHeld.2.2.2.2.2.2.2.2.2.2.2.1), (hb.cell (World.block_lt_of_cell? _ _ (hHeld.2.2.2.2.2.2.2.2.2.2.2.2.1))).trans (hHeld.2.2.2.2.2.2.2.2.2.2.2.2.1), (hb.cell (World.block_lt_of_cell? _ _ (hHeld.2.2.2.2.2.2.2.2.2.2.2.2.2.1))).trans (hHeld.2.2.2.2.2.2.2.2.2.2.2.2.2.1), (hb.cell (World.block_lt_of_cell? _ _ (hHeld.2.2.2.2.2.2.2.2.2.2.2.2.2.2.1))).trans (hHeld.2.2.2.2.2.2.2.2.2.2.2.2.2.2.1), (hb.cell (World.block_lt_of_cell? _ _ (hHeld.2.2.2.2.2.2.2.2.2.2.2.2.2.2.2.1))).trans (hHeld.2.2.2.2.2.2.2.2.2.2.2.2.2.2.2.1), (hb.cell (World.block_lt_of_cell? _ _ (hHeld.2.2.2.2.2.2.2.2.2.2.2.2.2.2.2.2))).trans (hHeld.2.2.2.2.2.2.2.2.2.2.2.2.2.2.2.2)⟩
      have HF5 := (HF4.below hb).and (StaysBut.of hKK hz6)
      have HB5 := below_step HB4.out hb
      have hbox' := blk_below hbox hb
      clear hA h9 hC hKK hHeld
      refine hK.out _ _ hS5 (fun hHeld => ?_)
      clear hK K hS5
      refine norm_ (a' := ?_) ?_ ?_
      rotate_left
      · show Act.put _ (some 98) _ = _
        simp only [Act.put, List.setIfInBounds_toArray, List.set_cons_zero, List.set_cons_succ, i64_w, i32_w]
        rfl
      refine pure_ (i := 5) (N := some 93) (v := ?_) (a' := ?_) #[true, true, true, true, true, true, false, false, false, true, false, false, false] rfl rfl (any_of HT_.out (by kernel_rfl)) (fun _ _ _ h => h) (Or.inl ⟨by rfl, ?_⟩) ?_ ?_
      rotate_left
      · intro w'
        go_simp
        with_reducible rfl
      rotate_left
      · simp only [Act.put, List.setIfInBounds_toArray, List.set_cons_zero, List.set_cons_succ, i64_w, i32_w]
        rfl
      refine pure_ (i := 6) (N := some 99) (v := ?_) (a' := ?_) #[true, true, true, true, true, true, true, false, false, true, false, false, false] rfl rfl (any_of HT_.out (by kernel_rfl)) (fun _ _ _ h => h) (Or.inl ⟨by rfl, ?_⟩) ?_ ?_
      rotate_left
      · intro w'
        go_simp
        with_reducible rfl
      rotate_left
      · simp only [Act.put, List.setIfInBounds_toArray, List.set_cons_zero, List.set_cons_succ, i64_w, i32_w]
        rfl
      refine pure_ (i := 7) (N := some 100) (v := ?_) (a' := ?_) #[true, true, true, true, true, true, true, true, false, true, false, false, false] rfl rfl (any_of HT_.out (by kernel_rfl)) (fun _ _ _ h => h) (Or.inl ⟨by rfl, ?_⟩) ?_ ?_
      rotate_left
      · intro w'
        go_simp
        with_reducible rfl
      rotate_left
      · simp only [Act.put, List.setIfInBounds_toArray, List.set_cons_zero, List.set_cons_succ, i64_w, i32_w]
        rfl
      refine pure_ (i := 8) (N := some 101) (v := ?_) (a' := ?_) #[true, true, true, true, true, true, true, true, true, true, false, false, false] rfl rfl (any_of HT_.out (by kernel_rfl)) (fun _ _ _ h => h) (Or.inl ⟨by rfl, ?_⟩) ?_ ?_
      rotate_left
      · intro w'
        go_simp
        with_reducible rfl
      rotate_left
      · simp only [Act.put, List.setIfInBounds_toArray, List.set_cons_zero, List.set_cons_succ, i64_w, i32_w]
        rfl
      exact norm_ (by simp only [putAll, Act.put, List.setIfInBounds_toArray, List.set_cons_zero, List.set_cons_succ]) (hCont (x6, x6', x7, x7', x8, x8', u6, u6', gx) _ ⟨hHeld, hbox', HF5.mono (fun W' h => ⟨h.1.1, h.1.2.1, h.1.2.2.1, h.1.2.2.2.1, h.1.2.2.2.2, h.2.1, h.2.2⟩), hz5, HB5⟩)
  rintro ⟨x6, x6', x7, x7', x8, x8', u6, u6', gx⟩ w5 ⟨hHeld, hbox, HF5, hz5, HB5⟩
  clear HS' HB' HZ'
  replace hz5 : w0_9.heap.size ≤ gx := hz5
  replace hbox : w5.heap[gx]? = some (.cells #[.int .i64 0, .int .i64 0, .int .i64 0, .int .i64 0, .bool false, .int .i64 0, .slice none 0 0, .slice none 0 0, .slice none 0 0] 26 (0, 0)) := hbox
  replace HF5 : StaysBut w5 gx (fun W => W.heap[w2.heap.size]? = some (.cells #[.int .i64 1, .int .i64 3, .int .i64 0, .int .i64 0, .bool true, .int .i64 0, .slice b6 0 b6', .slice b7 3 b7', .slice b8 0 b8'] 26 (0, 0)) ∧ W.heap[gd]? = some (.cells #[.int .i64 1, .int .i64 3, .int .i64 0, .int .i64 0, .bool true, .int .i64 0, .slice d6 1 d6', .slice d7 3 d7', .slice d8 0 d8'] 26 (0, 0)) ∧ Arg W (⟨1, 3, 0, 0, true, 0, [], [0, 0, 0], [], []⟩ : Nod) b6 b7 b8 b6' b7' b8' ∧ Arg W (⟨1, 3, 0, 0, true, 0, [⟨#[97]⟩], [0, 0, 0], [], [⟨2, 1, 0, 0, 0, 0, 1, []⟩]⟩ : Nod) d6 d7 d8 d6' d7' d8' ∧ Arg W (⟨0, 3, 0, 0, true, 0, [⟨#[97]⟩], [1, 0, 0], [], [⟨1, 0, 1, 0, 0, 0, 0, [⟨#[97]⟩]⟩, ⟨1, 0, 2, 0, 0, 0, 0, [⟨#[97]⟩]⟩]⟩ : Nod) c6 c7 c8 c6' c7' c8' ∧ Arg W (⟨0, 3, 0, 0, true, 1, [⟨#[97]⟩], [1, 1, 0], [], [⟨1, 0, 1, 0, 0, 1, 0, [⟨#[97]⟩]⟩, ⟨1, 0, 2, 0, 0, 1, 0, [⟨#[97]⟩]⟩]⟩ : Nod) x6 x7 x8 x6' x7' x8' ∧ Kd.C k28 W u6 2 [(⟨1, 0, 1, 0, 0, 1, 0, [⟨#[97]⟩]⟩ : S28), ⟨1, 0, 2, 0, 0, 1, 0, [⟨#[97]⟩]⟩]) := HF5
  refine norm_ (a' := ?_) ?_ ?_
  rotate_left
  · simp only [putAll, Act.put, List.setIfInBounds_toArray, List.set_cons_zero, List.set_cons_succ]
    rfl
  refine one_ (i := 10) (N := none) #[true, true, true, true, true, true, true, true, true, true, true, false, false] rfl rfl (one_of HT_.out (by kernel_rfl)) (by decide) (fun K hK => ?_)
  have hs0 : w5.cell? ⟨gx, 0, none⟩ = some (.int .i64 0) := (blk_cell hbox 0).trans rfl
  have hf0 := blk_frozen hbox 0
  have hs1 : w5.cell? ⟨gx, 1, none⟩ = some (.int .i64 0) := (blk_cell hbox 1).trans rfl
  have hf1 := blk_frozen hbox 1
  have hs2 : w5.cell? ⟨gx, 2, none⟩ = some (.int .i64 0) := (blk_cell hbox 2).trans rfl
  have hf2 := blk_frozen hbox 2
  have hs3 : w5.cell? ⟨gx, 3, none⟩ = some (.int .i64 0) := (blk_cell hbox 3).trans rfl
  have hf3 := blk_frozen hbox 3
  have hs4 : w5.cell? ⟨gx, 4, none⟩ = some (.bool false) := (blk_cell hbox 4).trans rfl
  have hf4 := blk_frozen hbox 4
  have hs5 : w5.cell? ⟨gx, 5, none⟩ = some (.int .i64 0) := (blk_cell hbox 5).trans rfl
  have hf5 := blk_frozen hbox 5
  have hs6 : w5.cell? ⟨gx, 6, none⟩ = some (.slice none 0 0) := (blk_cell hbox 6).trans rfl
  have hf6 := blk_frozen hbox 6
  have hs7 : w5.cell? ⟨gx, 7, none⟩ = some (.slice none 0 0) := (blk_cell hbox 7).trans rfl
  have hf7 := blk_frozen hbox 7
  have hs8 : w5.cell? ⟨gx, 8, none⟩ = some (.slice none 0 0) := (blk_cell hbox 8).trans rfl
  have hf8 := blk_frozen hbox 8
  refine skip_ (w1 := ?_) (by rfl) rfl ?_ ?_
  rotate_left
  · go_simp
    rfl
  have hP := put9 hbox (.int .i64 0) (.int .i64 3) (.int .i64 0) (.int .i64 0) (.bool true) (.int .i64 1) (.slice x6 1 x6') (.slice x7 3 x7') (.slice x8 0 x8')
  refine hK.out _ _ ⟨(World.cell?_of_block (w := w5) (hP.2 _ (by show w3.heap.size ≠ gx; omega))).trans (hHeld.1), (World.cell?_of_block (w := w5) (hP.2 _ (by show w3.heap.size ≠ gx; omega))).trans (hHeld.2.1), (World.cell?_of_block (w := w5) (hP.2 _ (by show w3.heap.size ≠ gx; omega))).trans (hHeld.2.2.1), (World.cell?_of_block (w := w5) (hP.2 _ (by show w3.heap.size ≠ gx; omega))).trans (hHeld.2.2.2.1), (World.cell?_of_block (w := w5) (hP.2 _ (by show w3.heap.size ≠ gx; omega))).trans (hHeld.2.2.2.2.1), (World.cell?_of_block (w := w5) (hP.2 _ (by show w3.heap.size ≠ gx; omega))).trans (hHeld.2.2.2.2.2.1), (World.cell?_of_block (w := w5) (hP.2 _ (by show w3.heap.size ≠ gx; omega))).trans (hHeld.2.2.2.2.2.2.1), (World.cell?_of_block (w := w5) (hP.2 _ (by show w3.heap.size ≠ gx; omega))).trans (hHeld.2.2.2.2.2.2.2.1), (World.cell?_of_block (w := w5) (hP.2 _ (by show w3.heap.size ≠ gx; omega))).trans (hHeld.2.2.2.2.2.2.2.2.1), (World.cell?_of_block (w := w5) (hP.2 _ (by show ad6.block ≠ gx; omega))).trans (hHeld.2.2.2.2.2.2.2.2.2.1), (World.cell?_of_block (w := w5) (hP.2 _ (by show ad6.block ≠ gx; omega))).trans (hHeld.2.2.2.2.2.2.2.2.2.2.1), (World.cell?_of_block (w := w5) (hP.2 _ (by show ad6.block ≠ gx; omega))).trans (hHeld.2.2.2.2.2.2.2.2.2.2.2.1), (World.cell?_of_block (w := w5) (hP.2 _ (by show ad6.block ≠ gx; omega))).trans (hHeld.2.2.2.2.2.2.2.2.2.2.2.2.1), (World.cell?_of_block (w := w5) (hP.2 _ (by show ad6.block ≠ gx; omega))).trans (hHeld.2.2.2.2.2.2.2.2.2.2.2.2.2.1), (World.cell?_of_block (w := w5) (hP.2 _ (by show ad6.block ≠ gx; omega))).trans (hHeld.2.2.2.2.2.2.2.2.2.2.2.2.2.2.1), (World.cell?_of_block (w := w5) (hP.2 _ (by show ad6.block ≠ gx; omega))).trans (hHeld.2.2.2.2.2.2.2.2.2.2.2.2.2.2.2.1), (World.cell?_of_block (w := w5) (hP.2 _ (by show ad6.block ≠ gx; omega))).trans (hHeld.2.2.2.2.2.2.2.2.2.2.2.2.2.2.2.2)⟩ (fun _ => ?_)
  clear hK K
  have HS := Aside0.mk (HF5.put (W1 := (((((((((w5.setCell ⟨gx, 0, none⟩ (.int .i64 0)).setCell ⟨gx, 1, none⟩ (.int .i64 3)).setCell ⟨gx, 2, none⟩ (.int .i64 0)).setCell ⟨gx, 3, none⟩ (.int .i64 0)).setCell ⟨gx, 4, none⟩ (.bool true)).setCell ⟨gx, 5, none⟩ (.int .i64 1)).setCell ⟨gx, 6, none⟩ (.slice x6 1 x6')).setCell ⟨gx, 7, none⟩ (.slice x7 3 x7')).setCell ⟨gx, 8, none⟩ (.slice x8 0 x8'))) (by simp [World.setCell]) hP.1 hP.2)
  have HB := Aside0.mk (put9_below HB5 (g := gx) (by have := HB0.out; omega) (.int .i64 0) (.int .i64 3) (.int .i64 0) (.int .i64 0) (.bool true) (.int .i64 1) (.slice x6 1 x6') (.slice x7 3 x7') (.slice x8 0 x8'))
  clear hP HF5 HB5 hbox hHeld hz5 hgin' had' hs0 hf0 hs1 hf1 hs2 hf2 hs3 hf3 hs4 hf4 hs5 hf5 hs6 hf6 hs7 hf7 hs8 hf8
  generalize (((((((((w5.setCell ⟨gx, 0, none⟩ (.int .i64 0)).setCell ⟨gx, 1, none⟩ (.int .i64 3)).setCell ⟨gx, 2, none⟩ (.int .i64 0)).setCell ⟨gx, 3, none⟩ (.int .i64 0)).setCell ⟨gx, 4, none⟩ (.bool true)).setCell ⟨gx, 5, none⟩ (.int .i64 1)).setCell ⟨gx, 6, none⟩ (.slice x6 1 x6')).setCell ⟨gx, 7, none⟩ (.slice x7 3 x7')).setCell ⟨gx, 8, none⟩ (.slice x8 0 x8')) = we at HS HB ⊢
  refine pure_ (i := 11) (N := some 12) (v := ?_) (a' := ?_) #[true, true, true, true, true, true, true, true, true, true, true, true, false] rfl rfl (any_of HT_.out (by kernel_rfl)) (fun _ _ _ h => h) (Or.inl ⟨by rfl, ?_⟩) ?_ ?_
  rotate_left
  · intro w'
    go_simp
    with_reducible rfl
  rotate_left
  · simp only [Act.put, List.setIfInBounds_toArray, List.set_cons_zero, List.set_cons_succ, i64_w, i32_w]
    rfl
  refine pure_ (i := 12) (N := some 13) (v := ?_) (a' := ?_) #[true, true, true, true, true, true, true, true, true, true, true, true, true] rfl rfl (any_of HT_.out (by kernel_rfl)) (fun _ _ _ h => h) (Or.inl ⟨by rfl, ?_⟩) ?_ ?_
  rotate_left
  · intro w'
    go_simp
    with_reducible rfl
  rotate_left
  · simp only [Act.put, List.setIfInBounds_toArray, List.set_cons_zero, List.set_cons_succ, i64_w, i32_w]
    rfl
  refine done_ (done_of HT_.out (by kernel_rfl)) ?_
  clear HT_ HW_
  clear HZL HB0
  have q0 : we.cell? ⟨gd, 0, none⟩ = some (.int .i64 1) := blk_cell HS.out.here.2.2.1 0
  have q1 : we.cell? ⟨gd, 1, none⟩ = some (.int .i64 3) := blk_cell HS.out.here.2.2.1 1
  have q2 : we.cell? ⟨gd, 2, none⟩ = some (.int .i64 0) := blk_cell HS.out.here.2.2.1 2
  have q3 : we.cell? ⟨gd, 3, none⟩ = some (.int .i64 0) := blk_cell HS.out.here.2.2.1 3
  have q4 : we.cell? ⟨gd, 4, none⟩ = some (.bool true) := blk_cell HS.out.here.2.2.1 4
  have q5 : we.cell? ⟨gd, 5, none⟩ = some (.int .i64 0) := blk_cell HS.out.here.2.2.1 5
  have q6 : we.cell? ⟨gd, 6, none⟩ = some (.slice d6 1 d6') := blk_cell HS.out.here.2.2.1 6
  have q7 : we.cell? ⟨gd, 7, none⟩ = some (.slice d7 3 d7') := blk_cell HS.out.here.2.2.1 7
  have q8 : we.cell? ⟨gd, 8, none⟩ = some (.slice d8 0 d8') := blk_cell HS.out.here.2.2.1 8
  go_wp2_with (fail)
  go_at_call 12
  with_reducible refine (w_timeout _ _ _ _ _ _ _ HS.out.here.2.2.2.2.1).mono ?_
  rintro e w7 ⟨y6, y6', y7, y7', y8, y8', o6, o6', rfl, hA, h9, hC, hb, hK⟩
  have HS7 := Aside0.mk (show Stays (w7.alloc (.cells #[.int .i64 1, .int .i64 3, .int .i64 1, .int .i64 0, .bool false, .int .i64 0, .slice y6 1 y6', .slice y7 3 y7', .slice y8 1 y8'] 26)) (fun W => W.heap[gx]? = some (.cells #[.int .i64 0, .int .i64 3, .int .i64 0, .int .i64 0, .bool true, .int .i64 1, .slice x6 1 x6', .slice x7 3 x7', .slice x8 0 x8'] 26 (0, 0)) ∧ W.heap[w2.heap.size]? = some (.cells #[.int .i64 1, .int .i64 3, .int .i64 0, .int .i64 0, .bool true, .int .i64 0, .slice b6 0 b6', .slice b7 3 b7', .slice b8 0 b8'] 26 (0, 0)) ∧ W.heap[w7.heap.size]? = some (.cells #[.int .i64 1, .int .i64 3, .int .i64 1, .int .i64 0, .bool false, .int .i64 0, .slice y6 1 y6', .slice y7 3 y7', .slice y8 1 y8'] 26 (0, 0)) ∧ Arg W (⟨1, 3, 0, 0, true, 0, [], [0, 0, 0], [], []⟩ : Nod) b6 b7 b8 b6' b7' b8' ∧ Arg W (⟨0, 3, 0, 0, true, 1, [⟨#[97]⟩], [1, 1, 0], [], [⟨1, 0, 1, 0, 0, 1, 0, [⟨#[97]⟩]⟩, ⟨1, 0, 2, 0, 0, 1, 0, [⟨#[97]⟩]⟩]⟩ : Nod) x6 x7 x8 x6' x7' x8' ∧ Kd.C k28 W u6 2 [(⟨1, 0, 1, 0, 0, 1, 0, [⟨#[97]⟩]⟩ : S28), ⟨1, 0, 2, 0, 0, 1, 0, [⟨#[97]⟩]⟩]) from (((HS.out.below hb).alloc (.cells #[.int .i64 1, .int .i64 3, .int .i64 1, .int .i64 0, .bool false, .int .i64 0, .slice y6 1 y6', .slice y7 3 y7', .slice y8 1 y8'] 26)).and (Stays.new w7 (.cells #[.int .i64 1, .int .i64 3, .int .i64 1, .int .i64 0, .bool false, .int .i64 0, .slice y6 1 y6', .slice y7 3 y7', .slice y8 1 y8'] 26))).mono (fun W' h => ⟨h.1.1, h.1.2.1, h.2, h.1.2.2.2.1, h.1.2.2.2.2.2.2.1, h.1.2.2.2.2.2.2.2⟩))
  have HB7 := Aside0.mk (below_alloc (below_step HB.out hb) (.cells #[.int .i64 1, .int .i64 3, .int .i64 1, .int .i64 0, .bool false, .int .i64 0, .slice y6 1 y6', .slice y7 3 y7', .slice y8 1 y8'] 26))
  clear HS HB hA h9 hC hb hK q0 q1 q2 q3 q4 q5 q6 q7 q8
  have q0 : (w7.alloc (.cells #[.int .i64 1, .int .i64 3, .int .i64 1, .int .i64 0, .bool false, .int .i64 0, .slice y6 1 y6', .slice y7 3 y7', .slice y8 1 y8'] 26)).cell? ⟨w2.heap.size, 0, none⟩ = some (.int .i64 1) := blk_cell HS7.out.here.2.1 0
  have q1 : (w7.alloc (.cells #[.int .i64 1, .int .i64 3, .int .i64 1, .int .i64 0, .bool false, .int .i64 0, .slice y6 1 y6', .slice y7 3 y7', .slice y8 1 y8'] 26)).cell? ⟨w2.heap.size, 1, none⟩ = some (.int .i64 3) := blk_cell HS7.out.here.2.1 1
  have q2 : (w7.alloc (.cells #[.int .i64 1, .int .i64 3, .int .i64 1, .int .i64 0, .bool false, .int .i64 0, .slice y6 1 y6', .slice y7 3 y7', .slice y8 1 y8'] 26)).cell? ⟨w2.heap.size, 2, none⟩ = some (.int .i64 0) := blk_cell HS7.out.here.2.1 2
  have q3 : (w7.alloc (.cells #[.int .i64 1, .int .i64 3, .int .i64 1, .int .i64 0, .bool false, .int .i64 0, .slice y6 1 y6', .slice y7 3 y7', .slice y8 1 y8'] 26)).cell? ⟨w2.heap.size, 3, none⟩ = some (.int .i64 0) := blk_cell HS7.out.here.2.1 3
  have q4 : (w7.alloc (.cells #[.int .i64 1, .int .i64 3, .int .i64 1, .int .i64 0, .bool false, .int .i64 0, .slice y6 1 y6', .slice y7 3 y7', .slice y8 1 y8'] 26)).cell? ⟨w2.heap.size, 4, none⟩ = some (.bool true) := blk_cell HS7.out.here.2.1 4
  have q5 : (w7.alloc (.cells #[.int .i64 1, .int .i64 3, .int .i64 1, .int .i64 0, .bool false, .int .i64 0, .slice y6 1 y6', .slice y7 3 y7', .slice y8 1 y8'] 26)).cell? ⟨w2.heap.size, 5, none⟩ = some (.int .i64 0) := blk_cell HS7.out.here.2.1 5
  have q6 : (w7.alloc (.cells #[.int .i64 1, .int .i64 3, .int .i64 1, .int .i64 0, .bool false, .int .i64 0, .slice y6 1 y6', .slice y7 3 y7', .slice y8 1 y8'] 26)).cell? ⟨w2.heap.size, 6, none⟩ = some (.slice b6 0 b6') := blk_cell HS7.out.here.2.1 6
  have q7 : (w7.alloc (.cells #[.int .i64 1, .int .i64 3, .int .i64 1, .int .i64 0, .bool false, .int .i64 0, .slice y6 1 y6', .slice y7 3 y7', .slice y8 1 y8'] 26)).cell? ⟨w2.heap.size, 7, none⟩ = some (.slice b7 3 b7') := blk_cell HS7.out.here.2.1 7
  have q8 : (w7.alloc (.cells #[.int .i64 1, .int .i64 3, .int .i64 1, .int .i64 0, .bool false, .int .i64 0, .slice y6 1 y6', .slice y7 3 y7', .slice y8 1 y8'] 26)).cell? ⟨w2.heap.size, 8, none⟩ = some (.slice b8 0 b8') := blk_cell HS7.out.here.2.1 8
  go_wp2_with (fail)
  go_at_call 13
  with_reducible refine (w_ask2 _ _ _ _ _ _ _ HS7.out.here.2.2.2.1).mono ?_
  rintro e w8 ⟨r6, r6', r7, r7', r8, r8', v6, v6', rfl, hb⟩
  have HS8 := Aside0.mk ((HS7.out.below hb).alloc (.cells #[.int .i64 0, .int .i64 0, .int .i64 0, .int .i64 0, .bool false, .int .i64 0, .slice r6 0 r6', .slice r7 0 r7', .slice r8 0 r8'] 26))
  have HB8 := Aside0.mk (below_alloc (below_step HB7.out hb) (.cells #[.int .i64 0, .int .i64 0, .int .i64 0, .int .i64 0, .bool false, .int .i64 0, .slice r6 0 r6', .slice r7 0 r7', .slice r8 0 r8'] 26))
  clear HS7 HB7 hb q0 q1 q2 q3 q4 q5 q6 q7 q8
  have q0 : (w8.alloc (.cells #[.int .i64 0, .int .i64 0, .int .i64 0, .int .i64 0, .bool false, .int .i64 0, .slice r6 0 r6', .slice r7 0 r7', .slice r8 0 r8'] 26)).cell? ⟨gx, 0, none⟩ = some (.int .i64 0) := blk_cell HS8.out.here.1 0
  have q1 : (w8.alloc (.cells #[.int .i64 0, .int .i64 0, .int .i64 0, .int .i64 0, .bool false, .int .i64 0, .slice r6 0 r6', .slice r7 0 r7', .slice r8 0 r8'] 26)).cell? ⟨gx, 1, none⟩ = some (.int .i64 3) := blk_cell HS8.out.here.1 1
  have q2 : (w8.alloc (.cells #[.int .i64 0, .int .i64 0, .int .i64 0, .int .i64 0, .bool false, .int .i64 0, .slice r6 0 r6', .slice r7 0 r7', .slice r8 0 r8'] 26)).cell? ⟨gx, 2, none⟩ = some (.int .i64 0) := blk_cell HS8.out.here.1 2
  have q3 : (w8.alloc (.cells #[.int .i64 0, .int .i64 0, .int .i64 0, .int .i64 0, .bool false, .int .i64 0, .slice r6 0 r6', .slice r7 0 r7', .slice r8 0 r8'] 26)).cell? ⟨gx, 3, none⟩ = some (.int .i64 0) := blk_cell HS8.out.here.1 3
  have q4 : (w8.alloc (.cells #[.int .i64 0, .int .i64 0, .int .i64 0, .int .i64 0, .bool false, .int .i64 0, .slice r6 0 r6', .slice r7 0 r7', .slice r8 0 r8'] 26)).cell? ⟨gx, 4, none⟩ = some (.bool true) := blk_cell HS8.out.here.1 4
  have q5 : (w8.alloc (.cells #[.int .i64 0, .int .i64 0, .int .i64 0, .int .i64 0, .bool false, .int .i64 0, .slice r6 0 r6', .slice r7 0 r7', .slice r8 0 r8'] 26)).cell? ⟨gx, 5, none⟩ = some (.int .i64 1) := blk_cell HS8.out.here.1 5
  have q6 : (w8.alloc (.cells #[.int .i64 0, .int .i64 0, .int .i64 0, .int .i64 0, .bool false, .int .i64 0, .slice r6 0 r6', .slice r7 0 r7', .slice r8 0 r8'] 26)).cell? ⟨gx, 6, none⟩ = some (.slice x6 1 x6') := blk_cell HS8.out.here.1 6
  have q7 : (w8.alloc (.cells #[.int .i64 0, .int .i64 0, .int .i64 0, .int .i64 0, .bool false, .int .i64 0, .slice r6 0 r6', .slice r7 0 r7', .slice r8 0 r8'] 26)).cell? ⟨gx, 7, none⟩ = some (.slice x7 3 x7') := blk_cell HS8.out.here.1 7
  have q8 : (w8.alloc (.cells #[.int .i64 0, .int .i64 0, .int .i64 0, .int .i64 0, .bool false, .int .i64 0, .slice r6 0 r6', .slice r7 0 r7', .slice r8 0 r8'] 26)).cell? ⟨gx, 8, none⟩ = some (.slice x8 0 x8') := blk_cell HS8.out.here.1 8
  have y0 : (w8.alloc (.cells #[.int .i64 0, .int .i64 0, .int .i64 0, .int .i64 0, .bool false, .int .i64 0, .slice r6 0 r6', .slice r7 0 r7', .slice r8 0 r8'] 26)).cell? ⟨w7.heap.size, 0, none⟩ = some (.int .i64 1) := blk_cell HS8.out.here.2.2.1 0
  have y1 : (w8.alloc (.cells #[.int .i64 0, .int .i64 0, .int .i64 0, .int .i64 0, .bool false, .int .i64 0, .slice r6 0 r6', .slice r7 0 r7', .slice r8 0 r8'] 26)).cell? ⟨w7.heap.size, 1, none⟩ = some (.int .i64 3) := blk_cell HS8.out.here.2.2.1 1
  have y2 : (w8.alloc (.cells #[.int .i64 0, .int .i64 0, .int .i64 0, .int .i64 0, .bool false, .int .i64 0, .slice r6 0 r6', .slice r7 0 r7', .slice r8 0 r8'] 26)).cell? ⟨w7.heap.size, 2, none⟩ = some (.int .i64 1) := blk_cell HS8.out.here.2.2.1 2
  have y3 : (w8.alloc (.cells #[.int .i64 0, .int .i64 0, .int .i64 0, .int .i64 0, .bool false, .int .i64 0, .slice r6 0 r6', .slice r7 0 r7', .slice r8 0 r8'] 26)).cell? ⟨w7.heap.size, 3, none⟩ = some (.int .i64 0) := blk_cell HS8.out.here.2.2.1 3
  have y4 : (w8.alloc (.cells #[.int .i64 0, .int .i64 0, .int .i64 0, .int .i64 0, .bool false, .int .i64 0, .slice r6 0 r6', .slice r7 0 r7', .slice r8 0 r8'] 26)).cell? ⟨w7.heap.size, 4, none⟩ = some (.bool false) := blk_cell HS8.out.here.2.2.1 4
  have y5 : (w8.alloc (.cells #[.int .i64 0, .int .i64 0, .int .i64 0, .int .i64 0, .bool false, .int .i64 0, .slice r6 0 r6', .slice r7 0 r7', .slice r8 0 r8'] 26)).cell? ⟨w7.heap.size, 5, none⟩ = some (.int .i64 0) := blk_cell HS8.out.here.2.2.1 5
  have y6 : (w8.alloc (.cells #[.int .i64 0, .int .i64 0, .int .i64 0, .int .i64 0, .bool false, .int .i64 0, .slice r6 0 r6', .slice r7 0 r7', .slice r8 0 r8'] 26)).cell? ⟨w7.heap.size, 6, none⟩ = some (.slice y6 1 y6') := blk_cell HS8.out.here.2.2.1 6
  have y7 : (w8.alloc (.cells #[.int .i64 0, .int .i64 0, .int .i64 0, .int .i64 0, .bool false, .int .i64 0, .slice r6 0 r6', .slice r7 0 r7', .slice r8 0 r8'] 26)).cell? ⟨w7.heap.size, 7, none⟩ = some (.slice y7 3 y7') := blk_cell HS8.out.here.2.2.1 7
  have y8 : (w8.alloc (.cells #[.int .i64 0, .int .i64 0, .int .i64 0, .int .i64 0, .bool false, .int .i64 0, .slice r6 0 r6', .slice r7 0 r7', .slice r8 0 r8'] 26)).cell? ⟨w7.heap.size, 8, none⟩ = some (.slice y8 1 y8') := blk_cell HS8.out.here.2.2.1 8
  obtain ⟨ad8, zM, zm, ze, z0, z1, z2, z3, z4, z5, z6, z7, zl, zh⟩ := at_T28 HS8.out.here.2.2.2.2.2 1 (by decide) (by decide)
  cases ze
  simp only [show (1 : Int).toNat = 1 from rfl, Nat.zero_mul, Nat.one_mul] at z0 z1 z2 z3 z4 z5 z6 z7
  change _ = some (Value.int .i64 1) at z0
  change _ = some (Value.int .i64 0) at z1
  change _ = some (Value.int .i64 2) at z2
  change _ = some (Value.int .i64 0) at z3
  change _ = some (Value.int .i64 0) at z4
  change _ = some (Value.int .i64 1) at z5
  change _ = some (Value.int .i64 0) at z6
  change _ = some (Value.slice zM 1 zm) at z7
  change (w8.alloc (.cells #[.int .i64 0, .int .i64 0, .int .i64 0, .int .i64 0, .bool false, .int .i64 0, .slice r6 0 r6', .slice r7 0 r7', .slice r8 0 r8'] 26)).cell? ⟨ad8.block, ad8.off + 8 + 5, none⟩ = _ at z5
  clear z0 z1 z2 z3 z4 z6 z7 zh zl
  go_wp2_with ((go_at_call 15; with_reducible refine (w_is _ _ _ _ _ _ _ HS8.out.here.2.2.2.2.1).mono ?_; rintro e w9 ⟨rfl, hb⟩; have HB9 := Aside0.mk (below_step HB8.out hb); clear hb))
  go_ret
  exact ⟨rfl, HB9.out⟩
end Go.Proofs.Ytfpfpckocemmdaa.P
end
section
namespace Go.Proofs.Ytfpfpckocemmdaa.P
open Go.RowKit Go.Proofs.YtfpfpckocemmdaaW.PrintWords Go.Proofs.YtfpfpckocemmdaaW.PrintLast Go.Proofs.YtfpfpckocemmdaaW.PrintMore
attribute [local go_sem] max2_int min2_int max_two min_two max_three min_three max_four min_four   -- for this text's walks alone
set_option linter.unusedVariables false
set_option linter.unusedSimpArgs false
def replica_Handle.f (a0_0 : Int) (a0_1 : Int) (a0_2 : Int) (a0_3 : Int) (a0_4 : Bool) (a0_5 : Int) (l0_6 : List ByteArray) (l0_7 : List Int) (l0_8 : List (S66)) (a1_0 : Int) (a1_1 : Int) (a1_2 : Int) (a1_3 : Int) (a1_4 : Int) (a1_5 : Int) (a1_6 : Int) (l1_7 : List ByteArray) : Option (Int × Int × Int × Int × Bool × Int × List ByteArray × List Int × (List (S66)) × List (S28) × Int) := if fitB l0_6 l0_7 l0_8 = true then some (flat3 (handleOf ⟨a0_0, a0_1, a0_2, a0_3, a0_4, a0_5, l0_6, l0_7, l0_8, []⟩ ⟨a1_0, a1_1, a1_2, a1_3, a1_4, a1_5, a1_6, l1_7⟩)) else none
theorem replica_Handle.calls (a0_0 : Int) (a0_1 : Int) (a0_2 : Int) (a0_3 : Int) (a0_4 : Bool) (a0_5 : Int) (A0_6 : Option Addr) (c0_6 : Nat) (l0_6 : List ByteArray) (A0_7 : Option Addr) (c0_7 : Nat) (l0_7 : List Int) (A0_8 : Option Addr) (c0_8 : Nat) (l0_8 : List (S66)) (a1_0 : Int) (a1_1 : Int) (a1_2 : Int) (a1_3 : Int) (a1_4 : Int) (a1_5 : Int) (a1_6 : Int) (A1_7 : Option Addr) (c1_7 : Nat) (l1_7 : List ByteArray) (r1 : Int) (r2 : Int) (r3 : Int) (r4 : Int) (r5 : Bool) (r6 : Int) (r7 : List ByteArray) (r8 : List Int) (r9 : List (S66)) (r10 : List (S28)) (r11 : Int) (w : World) (hr0_6 : Kd.C Kd.string w A0_6 l0_6.length l0_6) (hc0_6 : l0_6.length ≤ c0_6) (hr0_7 : Kd.C (Kd.int .i64) w A0_7 l0_7.length l0_7) (hc0_7 : l0_7.length ≤ c0_7) (hr0_8 : Kd.C k66 w A0_8 l0_8.length l0_8) (hc0_8 : l0_8.length ≤ c0_8) (hr1_7 : Kd.C Kd.string w A1_7 l1_7.length l1_7) (hc1_7 : l1_7.length ≤ c1_7) (h : replica_Handle.f a0_0 a0_1 a0_2 a0_3 a0_4 a0_5 l0_6 l0_7 l0_8 a1_0 a1_1 a1_2 a1_3 a1_4 a1_5 a1_6 l1_7 = some (r1, r2, r3, r4, r5, r6, r7, r8, r9, r10, r11)) :
    Calls Try.prog 8 #[.agg #[.int .i64 a0_0, .int .i64 a0_1, .int .i64 a0_2, .int .i64 a0_3, .bool a0_4, .int .i64 a0_5, .slice A0_6 l0_6.length c0_6, .slice A0_7 l0_7.length c0_7, .slice A0_8 l0_8.length c0_8], .agg #[.int .i64 a1_0, .int .i64 a1_1, .int .i64 a1_2, .int .i64 a1_3, .int .i64 a1_4, .int .i64 a1_5, .int .i64 a1_6, .slice A1_7 l1_7.length c1_7]] w fun e w' => ∃ v6_ v7_ v8_ v9_ : Value, e = .returned (.tuple #[.agg #[.int .i64 r1, .int .i64 r2, .int .i64 r3, .int .i64 r4, .bool r5, .int .i64 r6, v6_, v7_, v8_], v9_, .int .i64 r11]) ∧ Kd.R Kd.string 9 w' w.heap.size (fun _ => True) v6_ r7 ∧ Kd.R (Kd.int .i64) 3 w' w.heap.size (fun _ => True) v7_ r8 ∧ Kd.S k66 66 w' w.heap.size (fun k_ => some k_ ≠ (v6_ : Value).ownBlock) v8_ r9 ∧ Kd.S k28 28 w' w.heap.size (fun k_ => some k_ ≠ (v6_ : Value).ownBlock) v9_ r10 ∧ Below w.heap.size w w' := by
  unfold replica_Handle.f at h
  split at h
  case isFalse => cases h
  rename_i hfit
  have h := Option.some.inj h
  unfold flat3 at h
  simp only [Prod.mk.injEq] at h
  obtain ⟨rfl, rfl, rfl, rfl, rfl, rfl, rfl, rfl, rfl, rfl, rfl⟩ := h
  exact (handle_calls ⟨a0_0, a0_1, a0_2, a0_3, a0_4, a0_5, l0_6, l0_7, l0_8, []⟩ ⟨a1_0, a1_1, a1_2, a1_3, a1_4, a1_5, a1_6, l1_7⟩ A0_6 A0_7 A0_8 A1_7 c0_6 c0_7 c0_8 c1_7 w (arg_of hr0_6 hc0_6 hr0_7 hc0_7 hr0_8 hc0_8 hfit) hr1_7 hc1_7).mono fun e w' hb => Back.print hb
def sextonlaw24_worked.f : Option Bool := some true
theorem sextonlaw24_worked.calls (r : Bool) (w : World) (h : sextonlaw24_worked.f = some r) :
    Calls Try.prog 9 #[] w fun e w' => e = .returned (.bool r) ∧ Below w.heap.size w w' := by
  obtain rfl := Option.some.inj h
  exact worked_calls w
end Go.Proofs.Ytfpfpckocemmdaa.P
end
section
namespace Go.Proofs.Ytfpfpckocemmdaa.P
open Go.RowKit Go.Proofs.YtfpfpckocemmdaaW.PrintWords Go.Proofs.YtfpfpckocemmdaaW.PrintLast Go.Proofs.YtfpfpckocemmdaaW.PrintMore
attribute [local go_sem] max2_int min2_int max_two min_two max_three min_three max_four min_four   -- for this text's walks alone
set_option linter.unusedVariables false
set_option linter.unusedSimpArgs false
def sextonlaw24_ReplicaOld.j0 : Nat → Bool → Int → Int → Int → Int → Bool → Int → List ByteArray → List Int → List (S66) → Int → Int → Int → Int → Int → Int → Int → List ByteArray → Option (Bool)
  | 0, _, _, _, _, _, _, _, _, _, _, _, _, _, _, _, _, _, _ => none
  | k + 1, x17, x205000, x205001, x205002, x205003, x205004, x205005, x205006, x205007, x205008, x206000, x206001, x206002, x206003, x206004, x206005, x206006, x206007 => if x17 = true then (some true) else ((replica_Handle.f x205000 x205001 x205002 x205003 x205004 x205005 x205006 x205007 x205008 x206000 x206001 x206002 x206003 x206004 x206005 x206006 x206007).bind fun bt207 => (if bt207.2.2.2.2.2.2.2.2.2.2 = 0 then ((sextonlaw24_worked.f).bind fun t227 => (if t227 = true then ((sextonref24_Same.f k bt207.1 bt207.2.1 bt207.2.2.1 bt207.2.2.2.1 bt207.2.2.2.2.1 bt207.2.2.2.2.2.1 bt207.2.2.2.2.2.2.1 bt207.2.2.2.2.2.2.2.1 bt207.2.2.2.2.2.2.2.2.1 x205000 x205001 x205002 x205003 x205004 x205005 x205006 x205007 x205008).bind fun t228 => (if t228 = true then (some ((bt207.2.2.2.2.2.2.2.2.2.1.length : Int) == 0)) else (some false))) else (some false))) else ((sextonlaw24_worked.f).bind fun t229 => (if t229 = true then (some ((bt207.2.2.2.2.2.2.2.2.2.1.length : Int) == 0)) else (some false)))))
def sextonlaw24_ReplicaOld.f (k : Nat) (a0_0 : Int) (a0_1 : Int) (a0_2 : Int) (a0_3 : Int) (a0_4 : Bool) (a0_5 : Int) (l0_6 : List ByteArray) (l0_7 : List Int) (l0_8 : List (S66)) (a1_0 : Int) (a1_1 : Int) (a1_2 : Int) (a1_3 : Int) (a1_4 : Int) (a1_5 : Int) (a1_6 : Int) (l1_7 : List ByteArray) : Option (Bool) := (sextonlaw24_far.f k a0_0 a0_1 a0_2 a0_3 a0_4 a0_5 l0_6 l0_7 l0_8 a1_0 a1_1 a1_2 a1_3 a1_4 a1_5 a1_6 l1_7 (⟨#[]⟩ : ByteArray)).bind fun t206 => (if t206 = true then (sextonlaw24_ReplicaOld.j0 k true a0_0 a0_1 a0_2 a0_3 a0_4 a0_5 l0_6 l0_7 l0_8 a1_0 a1_1 a1_2 a1_3 a1_4 a1_5 a1_6 l1_7) else (sextonlaw24_ReplicaOld.j0 k (decide (a1_3 ≥ a0_2)) a0_0 a0_1 a0_2 a0_3 a0_4 a0_5 l0_6 l0_7 l0_8 a1_0 a1_1 a1_2 a1_3 a1_4 a1_5 a1_6 l1_7))
set_option maxHeartbeats 8000000 in
set_option maxRecDepth 100000 in
theorem sextonlaw24_ReplicaOld.calls (k : Nat) (a0_0 : Int) (a0_1 : Int) (a0_2 : Int) (a0_3 : Int) (a0_4 : Bool) (a0_5 : Int) (A0_6 : Option Addr) (c0_6 : Nat) (l0_6 : List ByteArray) (A0_7 : Option Addr) (c0_7 : Nat) (l0_7 : List Int) (A0_8 : Option Addr) (c0_8 : Nat) (l0_8 : List (S66)) (a1_0 : Int) (a1_1 : Int) (a1_2 : Int) (a1_3 : Int) (a1_4 : Int) (a1_5 : Int) (a1_6 : Int) (A1_7 : Option Addr) (c1_7 : Nat) (l1_7 : List ByteArray) (r : Bool) (w : World) (hr0_6 : Kd.C Kd.string w A0_6 l0_6.length l0_6) (hc0_6 : l0_6.length ≤ c0_6) (hr0_7 : Kd.C (Kd.int .i64) w A0_7 l0_7.length l0_7) (hc0_7 : l0_7.length ≤ c0_7) (hr0_8 : Kd.C k66 w A0_8 l0_8.length l0_8) (hc0_8 : l0_8.length ≤ c0_8) (hr1_7 : Kd.C Kd.string w A1_7 l1_7.length l1_7) (hc1_7 : l1_7.length ≤ c1_7) (h : sextonlaw24_ReplicaOld.f k a0_0 a0_1 a0_2 a0_3 a0_4 a0_5 l0_6 l0_7 l0_8 a1_0 a1_1 a1_2 a1_3 a1_4 a1_5 a1_6 l1_7 = some r) (ht : r = true) :
    Calls Try.prog 3 #[.agg #[.int .i64 a0_0, .int .i64 a0_1, .int .i64 a0_2, .int .i64 a0_3, .bool a0_4, .int .i64 a0_5, .slice A0_6 l0_6.length c0_6, .slice A0_7 l0_7.length c0_7, .slice A0_8 l0_8.length c0_8], .agg #[.int .i64 a1_0, .int .i64 a1_1, .int .i64 a1_2, .int .i64 a1_3, .int .i64 a1_4, .int .i64 a1_5, .int .i64 a1_6, .slice A1_7 l1_7.length c1_7]] w fun e w' => e = .returned (.bool r) ∧ Below w.heap.size w w' := by
  have hu26 := Try.underlying26
  have hu28 := Try.underlying28
  have HT := Aside0.mk ht
  clear ht
  have HR0_6 := Aside0.mk hr0_6
  have HC0_6 := Aside0.mk hc0_6
  clear hr0_6 hc0_6
  have HR0_7 := Aside0.mk hr0_7
  have HC0_7 := Aside0.mk hc0_7
  clear hr0_7 hc0_7
  have HR0_8 := Aside0.mk hr0_8
  have HC0_8 := Aside0.mk hc0_8
  clear hr0_8 hc0_8
  have HR1_7 := Aside0.mk hr1_7
  have HC1_7 := Aside0.mk hc1_7
  clear hr1_7 hc1_7
  have HB := Aside0.mk (Below.refl w.heap.size w)
  have H : ((sextonlaw24_far.f k a0_0 a0_1 a0_2 a0_3 a0_4 a0_5 l0_6 l0_7 l0_8 a1_0 a1_1 a1_2 a1_3 a1_4 a1_5 a1_6 l1_7 (⟨#[]⟩ : ByteArray)).bind fun t206 => (if t206 = true then (sextonlaw24_ReplicaOld.j0 k true a0_0 a0_1 a0_2 a0_3 a0_4 a0_5 l0_6 l0_7 l0_8 a1_0 a1_1 a1_2 a1_3 a1_4 a1_5 a1_6 l1_7) else (sextonlaw24_ReplicaOld.j0 k (decide (a1_3 ≥ a0_2)) a0_0 a0_1 a0_2 a0_3 a0_4 a0_5 l0_6 l0_7 l0_8 a1_0 a1_1 a1_2 a1_3 a1_4 a1_5 a1_6 l1_7))) = some r := h
  clear h
  have HC3 := Aside0.mk H
  clear H
  go_enter Try.func3, Try.ntmps3
  go_upto_region 1 with (first | ((with_reducible refine gate_dst (N := 2) rfl ?_); (try (refine gate_guard (by rfl) ?_; dsimp only)); refine box_event ?hg (N := 2) ?hd (cs := #[.int .i64 a0_0, .int .i64 a0_1, .int .i64 a0_2, .int .i64 a0_3, .bool a0_4, .int .i64 a0_5, .slice A0_6 l0_6.length c0_6, .slice A0_7 l0_7.length c0_7, .slice A0_8 l0_8.length c0_8]) (t := 26) ?hr ?_; (case hd => rfl); (case hg => rfl); (case hr => first | (go_simp; done) | (go_simp; rfl)); intro gb204 hg w4 hbox hb; have n0_ := Aside0.mk (below_step (by repeat (first | (with_reducible first | exact HB.out | apply below_alloc | apply pw_below_drewN | apply below_drew1) | exact HB.out)) hb); have n1_ := Aside0.mk (hbox); have n2_ := Aside0.mk ((by rw [hg]; exact (below_size (by repeat (first | (with_reducible first | exact HB.out | apply below_alloc | apply pw_below_drewN | apply below_drew1) | exact HB.out))) : w.heap.size ≤ gb204)); have n3_ := Aside0.mk ((by rw [hg]; exact (below_size (by repeat (first | (with_reducible first | exact HB.out | apply below_alloc | apply pw_below_drewN | apply below_drew1) | exact HB.out))) : w.heap.size ≤ gb204)); clear HB; have HB := n0_; have BK204 := n1_; have GW204 := n2_; have GE204 := n3_; clear n0_ n1_ n2_ n3_; clear hb hbox hg) | ((with_reducible refine gate_dst (N := 3) rfl ?_); (try (refine gate_guard (by rfl) ?_; dsimp only)); refine box_event ?hg (N := 3) ?hd (cs := #[.int .i64 a1_0, .int .i64 a1_1, .int .i64 a1_2, .int .i64 a1_3, .int .i64 a1_4, .int .i64 a1_5, .int .i64 a1_6, .slice A1_7 l1_7.length c1_7]) (t := 28) ?hr ?_; (case hd => rfl); (case hg => rfl); (case hr => first | (go_simp; done) | (go_simp; rfl)); intro gb205 hg w5 hbox hb; have n0_ := Aside0.mk (blk_below (g := gb204) (o := .cells #[.int .i64 a0_0, .int .i64 a0_1, .int .i64 a0_2, .int .i64 a0_3, .bool a0_4, .int .i64 a0_5, .slice A0_6 l0_6.length c0_6, .slice A0_7 l0_7.length c0_7, .slice A0_8 l0_8.length c0_8] 26 (0, 0)) (by (with_reducible repeat (first | refine blk_drewN ?_ _ | refine blk_drew ?_ | refine blk_alloc ?_ _)); exact BK204.out) hb); have n1_ := Aside0.mk (below_step (by repeat (first | (with_reducible first | exact HB.out | apply below_alloc | apply pw_below_drewN | apply below_drew1 | refine below_set ?_ GE204.out) | exact HB.out)) hb); have n2_ := Aside0.mk (hbox); have n3_ := Aside0.mk ((by rw [hg]; exact (below_size (by repeat (first | (with_reducible first | exact HB.out | apply below_alloc | apply pw_below_drewN | apply below_drew1 | refine below_set ?_ GE204.out) | exact HB.out))) : w.heap.size ≤ gb205)); have n4_ := Aside0.mk ((by rw [hg]; exact (below_size (by repeat (first | (with_reducible first | exact HB.out | apply below_alloc | apply pw_below_drewN | apply below_drew1 | refine below_set ?_ GE204.out) | exact HB.out))) : w.heap.size ≤ gb205)); have n5_ := Aside0.mk ((by rw [hg]; exact Nat.ne_of_lt (blk_lt (g := gb204) (o := .cells #[.int .i64 a0_0, .int .i64 a0_1, .int .i64 a0_2, .int .i64 a0_3, .bool a0_4, .int .i64 a0_5, .slice A0_6 l0_6.length c0_6, .slice A0_7 l0_7.length c0_7, .slice A0_8 l0_8.length c0_8] 26 (0, 0)) (by (with_reducible repeat (first | refine blk_drewN ?_ _ | refine blk_drew ?_ | refine blk_alloc ?_ _)); exact BK204.out)) : gb204 ≠ gb205)); have n6_ := Aside0.mk ((by rw [hg]; exact Nat.ne_of_gt (blk_lt (g := gb204) (o := .cells #[.int .i64 a0_0, .int .i64 a0_1, .int .i64 a0_2, .int .i64 a0_3, .bool a0_4, .int .i64 a0_5, .slice A0_6 l0_6.length c0_6, .slice A0_7 l0_7.length c0_7, .slice A0_8 l0_8.length c0_8] 26 (0, 0)) (by (with_reducible repeat (first | refine blk_drewN ?_ _ | refine blk_drew ?_ | refine blk_alloc ?_ _)); exact BK204.out)) : gb205 ≠ gb204)); clear BK204; clear HB; have BK204 := n0_; have HB := n1_; have BK205 := n2_; have GW205 := n3_; have GE205 := n4_; have NB204_205 := n5_; have NB205_204 := n6_; clear n0_ n1_ n2_ n3_ n4_ n5_ n6_; clear hb hbox hg))
  (try simp only [Act.put, List.setIfInBounds_toArray, List.set_cons_zero, List.set_cons_succ])
  go_cut [17] (fun v17 wc => ∃ (kq : Nat) (x17_2 : Bool), v17 = .bool x17_2 ∧ Aside0 (sextonlaw24_ReplicaOld.j0 kq x17_2 a0_0 a0_1 a0_2 a0_3 a0_4 a0_5 l0_6 l0_7 l0_8 a1_0 a1_1 a1_2 a1_3 a1_4 a1_5 a1_6 l1_7 = some r) ∧ Aside0 (kq ≤ k) ∧ Aside0 (wc.heap[gb204]? = some (.cells #[.int .i64 a0_0, .int .i64 a0_1, .int .i64 a0_2, .int .i64 a0_3, .bool a0_4, .int .i64 a0_5, (.slice A0_6 l0_6.length c0_6), (.slice A0_7 l0_7.length c0_7), (.slice A0_8 l0_8.length c0_8)] 26 (0, 0))) ∧ Aside0 (wc.heap[gb205]? = some (.cells #[.int .i64 a1_0, .int .i64 a1_1, .int .i64 a1_2, .int .i64 a1_3, .int .i64 a1_4, .int .i64 a1_5, .int .i64 a1_6, (.slice A1_7 l1_7.length c1_7)] 28 (0, 0))) ∧ Aside0 (Below w.heap.size w wc))
  case first =>
    have H := HC3.out
    clear HC3
    replace H := Option.bind_eq_some_iff.mp H
    obtain ⟨t206, A60, H⟩ := H
    replace H : (if t206 = true then (sextonlaw24_ReplicaOld.j0 k true a0_0 a0_1 a0_2 a0_3 a0_4 a0_5 l0_6 l0_7 l0_8 a1_0 a1_1 a1_2 a1_3 a1_4 a1_5 a1_6 l1_7) else (sextonlaw24_ReplicaOld.j0 k (decide (a1_3 ≥ a0_2)) a0_0 a0_1 a0_2 a0_3 a0_4 a0_5 l0_6 l0_7 l0_8 a1_0 a1_1 a1_2 a1_3 a1_4 a1_5 a1_6 l1_7)) = some r := H
    have A6 := Aside0.mk A60
    clear A60
    by_cases c7 : t206 = true
    · subst c7
      have H1 : (sextonlaw24_ReplicaOld.j0 k true a0_0 a0_1 a0_2 a0_3 a0_4 a0_5 l0_6 l0_7 l0_8 a1_0 a1_1 a1_2 a1_3 a1_4 a1_5 a1_6 l1_7) = some r := by rw [if_pos rfl] at H; exact H
      clear H
      have H := H1
      clear H1
      have H' := Aside0.mk H
      clear H
      have hnb8 := NB204_205.out
      have hnc8 := NB205_204.out
      have hcz9_0 : w5.cell? ⟨gb204, 0, none⟩ = some (.int .i64 a0_0) := (blk_cell BK204.out 0).trans rfl
      have hcz9_1 : w5.cell? ⟨gb204, 1, none⟩ = some (.int .i64 a0_1) := (blk_cell BK204.out 1).trans rfl
      have hcz9_2 : w5.cell? ⟨gb204, 2, none⟩ = some (.int .i64 a0_2) := (blk_cell BK204.out 2).trans rfl
      have hcz9_3 : w5.cell? ⟨gb204, 3, none⟩ = some (.int .i64 a0_3) := (blk_cell BK204.out 3).trans rfl
      have hcz9_4 : w5.cell? ⟨gb204, 4, none⟩ = some (.bool a0_4) := (blk_cell BK204.out 4).trans rfl
      have hcz9_5 : w5.cell? ⟨gb204, 5, none⟩ = some (.int .i64 a0_5) := (blk_cell BK204.out 5).trans rfl
      have hcz9_6 : w5.cell? ⟨gb204, 6, none⟩ = some (.slice A0_6 l0_6.length c0_6) := (blk_cell BK204.out 6).trans rfl
      have hcz9_7 : w5.cell? ⟨gb204, 7, none⟩ = some (.slice A0_7 l0_7.length c0_7) := (blk_cell BK204.out 7).trans rfl
      have hcz9_8 : w5.cell? ⟨gb204, 8, none⟩ = some (.slice A0_8 l0_8.length c0_8) := (blk_cell BK204.out 8).trans rfl
      have hfz9_0 := blk_frozen BK204.out 0
      have hfz9_1 := blk_frozen BK204.out 1
      have hfz9_2 := blk_frozen BK204.out 2
      have hfz9_3 := blk_frozen BK204.out 3
      have hfz9_4 := blk_frozen BK204.out 4
      have hfz9_5 := blk_frozen BK204.out 5
      have hfz9_6 := blk_frozen BK204.out 6
      have hfz9_7 := blk_frozen BK204.out 7
      have hfz9_8 := blk_frozen BK204.out 8
      have hcz10_0 : w5.cell? ⟨gb205, 0, none⟩ = some (.int .i64 a1_0) := (blk_cell BK205.out 0).trans rfl
      have hcz10_1 : w5.cell? ⟨gb205, 1, none⟩ = some (.int .i64 a1_1) := (blk_cell BK205.out 1).trans rfl
      have hcz10_2 : w5.cell? ⟨gb205, 2, none⟩ = some (.int .i64 a1_2) := (blk_cell BK205.out 2).trans rfl
      have hcz10_3 : w5.cell? ⟨gb205, 3, none⟩ = some (.int .i64 a1_3) := (blk_cell BK205.out 3).trans rfl
      have hcz10_4 : w5.cell? ⟨gb205, 4, none⟩ = some (.int .i64 a1_4) := (blk_cell BK205.out 4).trans rfl
      have hcz10_5 : w5.cell? ⟨gb205, 5, none⟩ = some (.int .i64 a1_5) := (blk_cell BK205.out 5).trans rfl
      have hcz10_6 : w5.cell? ⟨gb205, 6, none⟩ = some (.int .i64 a1_6) := (blk_cell BK205.out 6).trans rfl
      have hcz10_7 : w5.cell? ⟨gb205, 7, none⟩ = some (.slice A1_7 l1_7.length c1_7) := (blk_cell BK205.out 7).trans rfl
      have hfz10_0 := blk_frozen BK205.out 0
      have hfz10_1 := blk_frozen BK205.out 1
      have hfz10_2 := blk_frozen BK205.out 2
      have hfz10_3 := blk_frozen BK205.out 3
      have hfz10_4 := blk_frozen BK205.out 4
      have hfz10_5 := blk_frozen BK205.out 5
      have hfz10_6 := blk_frozen BK205.out 6
      have hfz10_7 := blk_frozen BK205.out 7
      go_wp2_with (first | ((with_reducible refine gate_callee (f := 7) rfl ?_); refine goesL_ (some 10) rfl rfl Try.func7 (by kernel_rfl) rfl #[.agg #[.int .i64 a0_0, .int .i64 a0_1, .int .i64 a0_2, .int .i64 a0_3, .bool a0_4, .int .i64 a0_5, .slice A0_6 l0_6.length c0_6, .slice A0_7 l0_7.length c0_7, .slice A0_8 l0_8.length c0_8], .agg #[.int .i64 a1_0, .int .i64 a1_1, .int .i64 a1_2, .int .i64 a1_3, .int .i64 a1_4, .int .i64 a1_5, .int .i64 a1_6, .slice A1_7 l1_7.length c1_7], .string (⟨#[]⟩ : ByteArray)] rfl (by (try simp only [List.map_toArray, List.map_cons, List.map_nil]); first | done | rfl | (simp only [List.length_drop, List.length_take]; rfl)) ?_; (with_reducible refine (sextonlaw24_far.calls k a0_0 a0_1 a0_2 a0_3 a0_4 a0_5 _ _ l0_6 _ _ l0_7 _ _ l0_8 a1_0 a1_1 a1_2 a1_3 a1_4 a1_5 a1_6 _ _ l1_7 (⟨#[]⟩ : ByteArray) true _ ?side1 ?side2 ?side3 ?side4 ?side5 ?side6 ?side7 ?side8 A6.out).mono ?_); (case side1 => repeat (first | exact (Kd.C_below HR0_6.out HB.out) | (with_reducible refine Kd.C_alloc ?_ _) | (with_reducible refine Kd.C_drewN ?_ _) | (with_reducible refine Kd.C_drew ?_))); (case side2 => exact HC0_6.out); (case side3 => repeat (first | exact (Kd.C_below HR0_7.out HB.out) | (with_reducible refine Kd.C_alloc ?_ _) | (with_reducible refine Kd.C_drewN ?_ _) | (with_reducible refine Kd.C_drew ?_))); (case side4 => exact HC0_7.out); (case side5 => repeat (first | exact (Kd.C_below HR0_8.out HB.out) | (with_reducible refine Kd.C_alloc ?_ _) | (with_reducible refine Kd.C_drewN ?_ _) | (with_reducible refine Kd.C_drew ?_))); (case side6 => exact HC0_8.out); (case side7 => repeat (first | exact (Kd.C_below HR1_7.out HB.out) | (with_reducible refine Kd.C_alloc ?_ _) | (with_reducible refine Kd.C_drewN ?_ _) | (with_reducible refine Kd.C_drew ?_))); (case side8 => exact HC1_7.out); rintro e w11 ⟨rfl, hb⟩; refine ⟨_, rfl, ?_⟩; have n0_ := Aside0.mk (blk_below (g := gb204) (o := .cells #[.int .i64 a0_0, .int .i64 a0_1, .int .i64 a0_2, .int .i64 a0_3, .bool a0_4, .int .i64 a0_5, .slice A0_6 l0_6.length c0_6, .slice A0_7 l0_7.length c0_7, .slice A0_8 l0_8.length c0_8] 26 (0, 0)) (by (with_reducible repeat (first | refine blk_drewN ?_ _ | refine blk_drew ?_ | refine blk_alloc ?_ _)); exact BK204.out) hb); have n1_ := Aside0.mk (blk_below (g := gb205) (o := .cells #[.int .i64 a1_0, .int .i64 a1_1, .int .i64 a1_2, .int .i64 a1_3, .int .i64 a1_4, .int .i64 a1_5, .int .i64 a1_6, .slice A1_7 l1_7.length c1_7] 28 (0, 0)) (by (with_reducible repeat (first | refine blk_drewN ?_ _ | refine blk_drew ?_ | refine blk_alloc ?_ _)); exact BK205.out) hb); have n2_ := Aside0.mk (below_step (by repeat (first | (with_reducible first | exact HB.out | apply below_alloc | apply pw_below_drewN | apply below_drew1 | refine below_set ?_ GE204.out | refine below_set ?_ GE205.out) | exact HB.out)) hb); clear BK204; clear BK205; clear HB; have BK204 := n0_; have BK205 := n1_; have HB := n2_; clear n0_ n1_ n2_; (try clear hb); (try clear hb2); (try clear hk); (try clear hi)))
      go_meet
      case rel => exact ⟨_, (true), (by first | rfl | (simp; done) | (simp [*]; done)), H', ⟨by first | omega | exact Nat.le_refl _⟩, ⟨by (with_reducible repeat (first | refine blk_drewN ?_ _ | refine blk_drew ?_ | refine blk_alloc ?_ _)); exact BK204.out⟩, ⟨by (with_reducible repeat (first | refine blk_drewN ?_ _ | refine blk_drew ?_ | refine blk_alloc ?_ _)); exact BK205.out⟩, ⟨by repeat (first | (with_reducible first | exact HB.out | apply below_alloc | apply pw_below_drewN | apply below_drew1 | refine below_set ?_ GE204.out | refine below_set ?_ GE205.out) | exact HB.out)⟩⟩
    · replace c7 := Bool.eq_false_iff.mpr c7
      subst c7
      have H1 : (sextonlaw24_ReplicaOld.j0 k (decide (a1_3 ≥ a0_2)) a0_0 a0_1 a0_2 a0_3 a0_4 a0_5 l0_6 l0_7 l0_8 a1_0 a1_1 a1_2 a1_3 a1_4 a1_5 a1_6 l1_7) = some r := by rw [if_neg (show ¬ (false = true) by decide)] at H; exact H
      clear H
      have H := H1
      clear H1
      have H' := Aside0.mk H
      clear H
      have hnb12 := NB204_205.out
      have hnc12 := NB205_204.out
      have hcz13_0 : w5.cell? ⟨gb204, 0, none⟩ = some (.int .i64 a0_0) := (blk_cell BK204.out 0).trans rfl
      have hcz13_1 : w5.cell? ⟨gb204, 1, none⟩ = some (.int .i64 a0_1) := (blk_cell BK204.out 1).trans rfl
      have hcz13_2 : w5.cell? ⟨gb204, 2, none⟩ = some (.int .i64 a0_2) := (blk_cell BK204.out 2).trans rfl
      have hcz13_3 : w5.cell? ⟨gb204, 3, none⟩ = some (.int .i64 a0_3) := (blk_cell BK204.out 3).trans rfl
      have hcz13_4 : w5.cell? ⟨gb204, 4, none⟩ = some (.bool a0_4) := (blk_cell BK204.out 4).trans rfl
      have hcz13_5 : w5.cell? ⟨gb204, 5, none⟩ = some (.int .i64 a0_5) := (blk_cell BK204.out 5).trans rfl
      have hcz13_6 : w5.cell? ⟨gb204, 6, none⟩ = some (.slice A0_6 l0_6.length c0_6) := (blk_cell BK204.out 6).trans rfl
      have hcz13_7 : w5.cell? ⟨gb204, 7, none⟩ = some (.slice A0_7 l0_7.length c0_7) := (blk_cell BK204.out 7).trans rfl
      have hcz13_8 : w5.cell? ⟨gb204, 8, none⟩ = some (.slice A0_8 l0_8.length c0_8) := (blk_cell BK204.out 8).trans rfl
      have hfz13_0 := blk_frozen BK204.out 0
      have hfz13_1 := blk_frozen BK204.out 1
      have hfz13_2 := blk_frozen BK204.out 2
      have hfz13_3 := blk_frozen BK204.out 3
      have hfz13_4 := blk_frozen BK204.out 4
      have hfz13_5 := blk_frozen BK204.out 5
      have hfz13_6 := blk_frozen BK204.out 6
      have hfz13_7 := blk_frozen BK204.out 7
      have hfz13_8 := blk_frozen BK204.out 8
      have hcz14_0 : w5.cell? ⟨gb205, 0, none⟩ = some (.int .i64 a1_0) := (blk_cell BK205.out 0).trans rfl
      have hcz14_1 : w5.cell? ⟨gb205, 1, none⟩ = some (.int .i64 a1_1) := (blk_cell BK205.out 1).trans rfl
      have hcz14_2 : w5.cell? ⟨gb205, 2, none⟩ = some (.int .i64 a1_2) := (blk_cell BK205.out 2).trans rfl
      have hcz14_3 : w5.cell? ⟨gb205, 3, none⟩ = some (.int .i64 a1_3) := (blk_cell BK205.out 3).trans rfl
      have hcz14_4 : w5.cell? ⟨gb205, 4, none⟩ = some (.int .i64 a1_4) := (blk_cell BK205.out 4).trans rfl
      have hcz14_5 : w5.cell? ⟨gb205, 5, none⟩ = some (.int .i64 a1_5) := (blk_cell BK205.out 5).trans rfl
      have hcz14_6 : w5.cell? ⟨gb205, 6, none⟩ = some (.int .i64 a1_6) := (blk_cell BK205.out 6).trans rfl
      have hcz14_7 : w5.cell? ⟨gb205, 7, none⟩ = some (.slice A1_7 l1_7.length c1_7) := (blk_cell BK205.out 7).trans rfl
      have hfz14_0 := blk_frozen BK205.out 0
      have hfz14_1 := blk_frozen BK205.out 1
      have hfz14_2 := blk_frozen BK205.out 2
      have hfz14_3 := blk_frozen BK205.out 3
      have hfz14_4 := blk_frozen BK205.out 4
      have hfz14_5 := blk_frozen BK205.out 5
      have hfz14_6 := blk_frozen BK205.out 6
      have hfz14_7 := blk_frozen BK205.out 7
      go_wp2_with (first | ((with_reducible refine gate_callee (f := 7) rfl ?_); refine goesL_ (some 10) rfl rfl Try.func7 (by kernel_rfl) rfl #[.agg #[.int .i64 a0_0, .int .i64 a0_1, .int .i64 a0_2, .int .i64 a0_3, .bool a0_4, .int .i64 a0_5, .slice A0_6 l0_6.length c0_6, .slice A0_7 l0_7.length c0_7, .slice A0_8 l0_8.length c0_8], .agg #[.int .i64 a1_0, .int .i64 a1_1, .int .i64 a1_2, .int .i64 a1_3, .int .i64 a1_4, .int .i64 a1_5, .int .i64 a1_6, .slice A1_7 l1_7.length c1_7], .string (⟨#[]⟩ : ByteArray)] rfl (by (try simp only [List.map_toArray, List.map_cons, List.map_nil]); first | done | rfl | (simp only [List.length_drop, List.length_take]; rfl)) ?_; (with_reducible refine (sextonlaw24_far.calls k a0_0 a0_1 a0_2 a0_3 a0_4 a0_5 _ _ l0_6 _ _ l0_7 _ _ l0_8 a1_0 a1_1 a1_2 a1_3 a1_4 a1_5 a1_6 _ _ l1_7 (⟨#[]⟩ : ByteArray) false _ ?side1 ?side2 ?side3 ?side4 ?side5 ?side6 ?side7 ?side8 A6.out).mono ?_); (case side1 => repeat (first | exact (Kd.C_below HR0_6.out HB.out) | (with_reducible refine Kd.C_alloc ?_ _) | (with_reducible refine Kd.C_drewN ?_ _) | (with_reducible refine Kd.C_drew ?_))); (case side2 => exact HC0_6.out); (case side3 => repeat (first | exact (Kd.C_below HR0_7.out HB.out) | (with_reducible refine Kd.C_alloc ?_ _) | (with_reducible refine Kd.C_drewN ?_ _) | (with_reducible refine Kd.C_drew ?_))); (case side4 => exact HC0_7.out); (case side5 => repeat (first | exact (Kd.C_below HR0_8.out HB.out) | (with_reducible refine Kd.C_alloc ?_ _) | (with_reducible refine Kd.C_drewN ?_ _) | (with_reducible refine Kd.C_drew ?_))); (case side6 => exact HC0_8.out); (case side7 => repeat (first | exact (Kd.C_below HR1_7.out HB.out) | (with_reducible refine Kd.C_alloc ?_ _) | (with_reducible refine Kd.C_drewN ?_ _) | (with_reducible refine Kd.C_drew ?_))); (case side8 => exact HC1_7.out); rintro e w15 ⟨rfl, hb⟩; refine ⟨_, rfl, ?_⟩; have n0_ := Aside0.mk (blk_below (g := gb204) (o := .cells #[.int .i64 a0_0, .int .i64 a0_1, .int .i64 a0_2, .int .i64 a0_3, .bool a0_4, .int .i64 a0_5, .slice A0_6 l0_6.length c0_6, .slice A0_7 l0_7.length c0_7, .slice A0_8 l0_8.length c0_8] 26 (0, 0)) (by (with_reducible repeat (first | refine blk_drewN ?_ _ | refine blk_drew ?_ | refine blk_alloc ?_ _)); exact BK204.out) hb); have n1_ := Aside0.mk (blk_below (g := gb205) (o := .cells #[.int .i64 a1_0, .int .i64 a1_1, .int .i64 a1_2, .int .i64 a1_3, .int .i64 a1_4, .int .i64 a1_5, .int .i64 a1_6, .slice A1_7 l1_7.length c1_7] 28 (0, 0)) (by (with_reducible repeat (first | refine blk_drewN ?_ _ | refine blk_drew ?_ | refine blk_alloc ?_ _)); exact BK205.out) hb); have n2_ := Aside0.mk (below_step (by repeat (first | (with_reducible first | exact HB.out | apply below_alloc | apply pw_below_drewN | apply below_drew1 | refine below_set ?_ GE204.out | refine below_set ?_ GE205.out) | exact HB.out)) hb); clear BK204; clear BK205; clear HB; have BK204 := n0_; have BK205 := n1_; have HB := n2_; clear n0_ n1_ n2_; (try clear hb); (try clear hb2); (try clear hk); (try clear hi); have hcz16_0 : w15.cell? ⟨gb205, 0, none⟩ = some (.int .i64 a1_0) := (blk_cell BK205.out 0).trans rfl; have hcz16_1 : w15.cell? ⟨gb205, 1, none⟩ = some (.int .i64 a1_1) := (blk_cell BK205.out 1).trans rfl; have hcz16_2 : w15.cell? ⟨gb205, 2, none⟩ = some (.int .i64 a1_2) := (blk_cell BK205.out 2).trans rfl; have hcz16_3 : w15.cell? ⟨gb205, 3, none⟩ = some (.int .i64 a1_3) := (blk_cell BK205.out 3).trans rfl; have hcz16_4 : w15.cell? ⟨gb205, 4, none⟩ = some (.int .i64 a1_4) := (blk_cell BK205.out 4).trans rfl; have hcz16_5 : w15.cell? ⟨gb205, 5, none⟩ = some (.int .i64 a1_5) := (blk_cell BK205.out 5).trans rfl; have hcz16_6 : w15.cell? ⟨gb205, 6, none⟩ = some (.int .i64 a1_6) := (blk_cell BK205.out 6).trans rfl; have hcz16_7 : w15.cell? ⟨gb205, 7, none⟩ = some (.slice A1_7 l1_7.length c1_7) := (blk_cell BK205.out 7).trans rfl; have hfz16_0 := blk_frozen BK205.out 0; have hfz16_1 := blk_frozen BK205.out 1; have hfz16_2 := blk_frozen BK205.out 2; have hfz16_3 := blk_frozen BK205.out 3; have hfz16_4 := blk_frozen BK205.out 4; have hfz16_5 := blk_frozen BK205.out 5; have hfz16_6 := blk_frozen BK205.out 6; have hfz16_7 := blk_frozen BK205.out 7; have hcz17_0 : w15.cell? ⟨gb204, 0, none⟩ = some (.int .i64 a0_0) := (blk_cell BK204.out 0).trans rfl; have hcz17_1 : w15.cell? ⟨gb204, 1, none⟩ = some (.int .i64 a0_1) := (blk_cell BK204.out 1).trans rfl; have hcz17_2 : w15.cell? ⟨gb204, 2, none⟩ = some (.int .i64 a0_2) := (blk_cell BK204.out 2).trans rfl; have hcz17_3 : w15.cell? ⟨gb204, 3, none⟩ = some (.int .i64 a0_3) := (blk_cell BK204.out 3).trans rfl; have hcz17_4 : w15.cell? ⟨gb204, 4, none⟩ = some (.bool a0_4) := (blk_cell BK204.out 4).trans rfl; have hcz17_5 : w15.cell? ⟨gb204, 5, none⟩ = some (.int .i64 a0_5) := (blk_cell BK204.out 5).trans rfl; have hcz17_6 : w15.cell? ⟨gb204, 6, none⟩ = some (.slice A0_6 l0_6.length c0_6) := (blk_cell BK204.out 6).trans rfl; have hcz17_7 : w15.cell? ⟨gb204, 7, none⟩ = some (.slice A0_7 l0_7.length c0_7) := (blk_cell BK204.out 7).trans rfl; have hcz17_8 : w15.cell? ⟨gb204, 8, none⟩ = some (.slice A0_8 l0_8.length c0_8) := (blk_cell BK204.out 8).trans rfl; have hfz17_0 := blk_frozen BK204.out 0; have hfz17_1 := blk_frozen BK204.out 1; have hfz17_2 := blk_frozen BK204.out 2; have hfz17_3 := blk_frozen BK204.out 3; have hfz17_4 := blk_frozen BK204.out 4; have hfz17_5 := blk_frozen BK204.out 5; have hfz17_6 := blk_frozen BK204.out 6; have hfz17_7 := blk_frozen BK204.out 7; have hfz17_8 := blk_frozen BK204.out 8))
      go_meet
      case rel => exact ⟨_, (decide (a1_3 ≥ a0_2)), (by first | rfl | (simp; done) | (simp [*]; done)), H', ⟨by first | omega | exact Nat.le_refl _⟩, ⟨by (with_reducible repeat (first | refine blk_drewN ?_ _ | refine blk_drew ?_ | refine blk_alloc ?_ _)); exact BK204.out⟩, ⟨by (with_reducible repeat (first | refine blk_drewN ?_ _ | refine blk_drew ?_ | refine blk_alloc ?_ _)); exact BK205.out⟩, ⟨by repeat (first | (with_reducible first | exact HB.out | apply below_alloc | apply pw_below_drewN | apply below_drew1 | refine below_set ?_ GE204.out | refine below_set ?_ GE205.out) | exact HB.out)⟩⟩
  case rest =>
    clear HC3
    try clear c1
    try clear p2
    try clear c3
    try clear c7
    try clear c8
    try clear c12
    try clear hcz10_0
    try clear hcz10_1
    try clear hcz10_2
    try clear hcz10_3
    try clear hcz10_4
    try clear hcz10_5
    try clear hcz10_6
    try clear hcz10_7
    try clear hcz13_0
    try clear hcz13_1
    try clear hcz13_2
    try clear hcz13_3
    try clear hcz13_4
    try clear hcz13_5
    try clear hcz13_6
    try clear hcz13_7
    try clear hcz13_8
    try clear hcz14_0
    try clear hcz14_1
    try clear hcz14_2
    try clear hcz14_3
    try clear hcz14_4
    try clear hcz14_5
    try clear hcz14_6
    try clear hcz14_7
    try clear hcz16_0
    try clear hcz16_1
    try clear hcz16_2
    try clear hcz16_3
    try clear hcz16_4
    try clear hcz16_5
    try clear hcz16_6
    try clear hcz16_7
    try clear hcz17_0
    try clear hcz17_1
    try clear hcz17_2
    try clear hcz17_3
    try clear hcz17_4
    try clear hcz17_5
    try clear hcz17_6
    try clear hcz17_7
    try clear hcz17_8
    try clear hcz9_0
    try clear hcz9_1
    try clear hcz9_2
    try clear hcz9_3
    try clear hcz9_4
    try clear hcz9_5
    try clear hcz9_6
    try clear hcz9_7
    try clear hcz9_8
    try clear hfz10_0
    try clear hfz10_1
    try clear hfz10_2
    try clear hfz10_3
    try clear hfz10_4
    try clear hfz10_5
    try clear hfz10_6
    try clear hfz10_7
    try clear hfz13_0
    try clear hfz13_1
    try clear hfz13_2
    try clear hfz13_3
    try clear hfz13_4
    try clear hfz13_5
    try clear hfz13_6
    try clear hfz13_7
    try clear hfz13_8
    try clear hfz14_0
    try clear hfz14_1
    try clear hfz14_2
    try clear hfz14_3
    try clear hfz14_4
    try clear hfz14_5
    try clear hfz14_6
    try clear hfz14_7
    try clear hfz16_0
    try clear hfz16_1
    try clear hfz16_2
    try clear hfz16_3
    try clear hfz16_4
    try clear hfz16_5
    try clear hfz16_6
    try clear hfz16_7
    try clear hfz17_0
    try clear hfz17_1
    try clear hfz17_2
    try clear hfz17_3
    try clear hfz17_4
    try clear hfz17_5
    try clear hfz17_6
    try clear hfz17_7
    try clear hfz17_8
    try clear hfz9_0
    try clear hfz9_1
    try clear hfz9_2
    try clear hfz9_3
    try clear hfz9_4
    try clear hfz9_5
    try clear hfz9_6
    try clear hfz9_7
    try clear hfz9_8
    obtain ⟨kq, x17_2, rfl, HA, HJ2, BK204, BK205, HB⟩ := hcut
    cases kq with
    | zero => exact absurd HA.out (by simp [sextonlaw24_ReplicaOld.j0])
    | succ kj2 =>
      have H := HA.out
      clear HA
      simp only [sextonlaw24_ReplicaOld.j0] at H
      by_cases c18 : x17_2 = true
      · subst c18
        have H1 : (some true) = some r := by rw [if_pos rfl] at H; exact H
        clear H
        have H := H1
        clear H1
        obtain rfl := Option.some.inj H
        go_wp2
        go_ret
        exact ⟨by first | rfl | (simp [errW_none, errW_some] <;> rfl) | (simp [*, errW_none, errW_some] <;> rfl), by repeat (first | (with_reducible first | exact HB.out | apply below_alloc | apply pw_below_drewN | apply below_drew1 | refine below_set ?_ GE204.out | refine below_set ?_ GE205.out) | exact HB.out)⟩
      · replace c18 := Bool.eq_false_iff.mpr c18
        subst c18
        have H1 : ((replica_Handle.f a0_0 a0_1 a0_2 a0_3 a0_4 a0_5 l0_6 l0_7 l0_8 a1_0 a1_1 a1_2 a1_3 a1_4 a1_5 a1_6 l1_7).bind fun bt207 => (if bt207.2.2.2.2.2.2.2.2.2.2 = 0 then ((sextonlaw24_worked.f).bind fun t227 => (if t227 = true then ((sextonref24_Same.f kj2 bt207.1 bt207.2.1 bt207.2.2.1 bt207.2.2.2.1 bt207.2.2.2.2.1 bt207.2.2.2.2.2.1 bt207.2.2.2.2.2.2.1 bt207.2.2.2.2.2.2.2.1 bt207.2.2.2.2.2.2.2.2.1 a0_0 a0_1 a0_2 a0_3 a0_4 a0_5 l0_6 l0_7 l0_8).bind fun t228 => (if t228 = true then (some ((bt207.2.2.2.2.2.2.2.2.2.1.length : Int) == 0)) else (some false))) else (some false))) else ((sextonlaw24_worked.f).bind fun t229 => (if t229 = true then (some ((bt207.2.2.2.2.2.2.2.2.2.1.length : Int) == 0)) else (some false))))) = some r := by rw [if_neg (show ¬ (false = true) by decide)] at H; exact H
        clear H
        have H := H1
        clear H1
        replace H := Option.bind_eq_some_iff.mp H
        obtain ⟨⟨t207, t208, t209, t210, t211, t212, t213, t216, t219, t222, t225⟩, A190, H⟩ := H
        replace H : (if t225 = 0 then ((sextonlaw24_worked.f).bind fun t227 => (if t227 = true then ((sextonref24_Same.f kj2 t207 t208 t209 t210 t211 t212 t213 t216 t219 a0_0 a0_1 a0_2 a0_3 a0_4 a0_5 l0_6 l0_7 l0_8).bind fun t228 => (if t228 = true then (some ((t222.length : Int) == 0)) else (some false))) else (some false))) else ((sextonlaw24_worked.f).bind fun t229 => (if t229 = true then (some ((t222.length : Int) == 0)) else (some false)))) = some r := H
        have A19 := Aside0.mk A190
        clear A190
        by_cases c20 : t225 = 0
        · rw [if_pos c20] at H
          have c20b0 : (t225 == 0) = true := beq_iff_eq.mpr c20
          have c20b1 : (t225 != 0) = false := bne_eq_false_iff_eq.mpr c20
          clear c20
          replace H := Option.bind_eq_some_iff.mp H
          obtain ⟨t227, A210, H⟩ := H
          replace H : (if t227 = true then ((sextonref24_Same.f kj2 t207 t208 t209 t210 t211 t212 t213 t216 t219 a0_0 a0_1 a0_2 a0_3 a0_4 a0_5 l0_6 l0_7 l0_8).bind fun t228 => (if t228 = true then (some ((t222.length : Int) == 0)) else (some false))) else (some false)) = some r := H
          have A21 := Aside0.mk A210
          clear A210
          by_cases c22 : t227 = true
          · subst c22
            have H1 : ((sextonref24_Same.f kj2 t207 t208 t209 t210 t211 t212 t213 t216 t219 a0_0 a0_1 a0_2 a0_3 a0_4 a0_5 l0_6 l0_7 l0_8).bind fun t228 => (if t228 = true then (some ((t222.length : Int) == 0)) else (some false))) = some r := by rw [if_pos rfl] at H; exact H
            clear H
            have H := H1
            clear H1
            replace H := Option.bind_eq_some_iff.mp H
            obtain ⟨t228, A230, H⟩ := H
            replace H : (if t228 = true then (some ((t222.length : Int) == 0)) else (some false)) = some r := H
            have A23 := Aside0.mk A230
            clear A230
            by_cases c24 : t228 = true
            · subst c24
              have H1 : (some ((t222.length : Int) == 0)) = some r := by rw [if_pos rfl] at H; exact H
              clear H
              have H := H1
              clear H1
              obtain rfl := Option.some.inj H
              have hnb25 := NB204_205.out
              have hnc25 := NB205_204.out
              have hcz26_0 : wc.cell? ⟨gb204, 0, none⟩ = some (.int .i64 a0_0) := (blk_cell BK204.out 0).trans rfl
              have hcz26_1 : wc.cell? ⟨gb204, 1, none⟩ = some (.int .i64 a0_1) := (blk_cell BK204.out 1).trans rfl
              have hcz26_2 : wc.cell? ⟨gb204, 2, none⟩ = some (.int .i64 a0_2) := (blk_cell BK204.out 2).trans rfl
              have hcz26_3 : wc.cell? ⟨gb204, 3, none⟩ = some (.int .i64 a0_3) := (blk_cell BK204.out 3).trans rfl
              have hcz26_4 : wc.cell? ⟨gb204, 4, none⟩ = some (.bool a0_4) := (blk_cell BK204.out 4).trans rfl
              have hcz26_5 : wc.cell? ⟨gb204, 5, none⟩ = some (.int .i64 a0_5) := (blk_cell BK204.out 5).trans rfl
              have hcz26_6 : wc.cell? ⟨gb204, 6, none⟩ = some (.slice A0_6 l0_6.length c0_6) := (blk_cell BK204.out 6).trans rfl
              have hcz26_7 : wc.cell? ⟨gb204, 7, none⟩ = some (.slice A0_7 l0_7.length c0_7) := (blk_cell BK204.out 7).trans rfl
              have hcz26_8 : wc.cell? ⟨gb204, 8, none⟩ = some (.slice A0_8 l0_8.length c0_8) := (blk_cell BK204.out 8).trans rfl
              have hfz26_0 := blk_frozen BK204.out 0
              have hfz26_1 := blk_frozen BK204.out 1
              have hfz26_2 := blk_frozen BK204.out 2
              have hfz26_3 := blk_frozen BK204.out 3
              have hfz26_4 := blk_frozen BK204.out 4
              have hfz26_5 := blk_frozen BK204.out 5
              have hfz26_6 := blk_frozen BK204.out 6
              have hfz26_7 := blk_frozen BK204.out 7
              have hfz26_8 := blk_frozen BK204.out 8
              have hcz27_0 : wc.cell? ⟨gb205, 0, none⟩ = some (.int .i64 a1_0) := (blk_cell BK205.out 0).trans rfl
              have hcz27_1 : wc.cell? ⟨gb205, 1, none⟩ = some (.int .i64 a1_1) := (blk_cell BK205.out 1).trans rfl
              have hcz27_2 : wc.cell? ⟨gb205, 2, none⟩ = some (.int .i64 a1_2) := (blk_cell BK205.out 2).trans rfl
              have hcz27_3 : wc.cell? ⟨gb205, 3, none⟩ = some (.int .i64 a1_3) := (blk_cell BK205.out 3).trans rfl
              have hcz27_4 : wc.cell? ⟨gb205, 4, none⟩ = some (.int .i64 a1_4) := (blk_cell BK205.out 4).trans rfl
              have hcz27_5 : wc.cell? ⟨gb205, 5, none⟩ = some (.int .i64 a1_5) := (blk_cell BK205.out 5).trans rfl
              have hcz27_6 : wc.cell? ⟨gb205, 6, none⟩ = some (.int .i64 a1_6) := (blk_cell BK205.out 6).trans rfl
              have hcz27_7 : wc.cell? ⟨gb205, 7, none⟩ = some (.slice A1_7 l1_7.length c1_7) := (blk_cell BK205.out 7).trans rfl
              have hfz27_0 := blk_frozen BK205.out 0
              have hfz27_1 := blk_frozen BK205.out 1
              have hfz27_2 := blk_frozen BK205.out 2
              have hfz27_3 := blk_frozen BK205.out 3
              have hfz27_4 := blk_frozen BK205.out 4
              have hfz27_5 := blk_frozen BK205.out 5
              have hfz27_6 := blk_frozen BK205.out 6
              have hfz27_7 := blk_frozen BK205.out 7
              go_wp2_with (first | ((with_reducible refine gate_callee (f := 8) rfl ?_); refine goesL_ (some 21) rfl rfl Try.func8 (by kernel_rfl) rfl #[.agg #[.int .i64 a0_0, .int .i64 a0_1, .int .i64 a0_2, .int .i64 a0_3, .bool a0_4, .int .i64 a0_5, .slice A0_6 l0_6.length c0_6, .slice A0_7 l0_7.length c0_7, .slice A0_8 l0_8.length c0_8], .agg #[.int .i64 a1_0, .int .i64 a1_1, .int .i64 a1_2, .int .i64 a1_3, .int .i64 a1_4, .int .i64 a1_5, .int .i64 a1_6, .slice A1_7 l1_7.length c1_7]] rfl (by (try simp only [List.map_toArray, List.map_cons, List.map_nil]); first | done | rfl | (simp only [List.length_drop, List.length_take]; rfl)) ?_; (with_reducible refine (replica_Handle.calls a0_0 a0_1 a0_2 a0_3 a0_4 a0_5 _ _ l0_6 _ _ l0_7 _ _ l0_8 a1_0 a1_1 a1_2 a1_3 a1_4 a1_5 a1_6 _ _ l1_7 t207 t208 t209 t210 t211 t212 t213 t216 t219 t222 t225 _ ?side1 ?side2 ?side3 ?side4 ?side5 ?side6 ?side7 ?side8 A19.out).mono ?_); (case side1 => repeat (first | exact (Kd.C_below HR0_6.out HB.out) | (with_reducible refine Kd.C_alloc ?_ _) | (with_reducible refine Kd.C_drewN ?_ _) | (with_reducible refine Kd.C_drew ?_))); (case side2 => exact HC0_6.out); (case side3 => repeat (first | exact (Kd.C_below HR0_7.out HB.out) | (with_reducible refine Kd.C_alloc ?_ _) | (with_reducible refine Kd.C_drewN ?_ _) | (with_reducible refine Kd.C_drew ?_))); (case side4 => exact HC0_7.out); (case side5 => repeat (first | exact (Kd.C_below HR0_8.out HB.out) | (with_reducible refine Kd.C_alloc ?_ _) | (with_reducible refine Kd.C_drewN ?_ _) | (with_reducible refine Kd.C_drew ?_))); (case side6 => exact HC0_8.out); (case side7 => repeat (first | exact (Kd.C_below HR1_7.out HB.out) | (with_reducible refine Kd.C_alloc ?_ _) | (with_reducible refine Kd.C_drewN ?_ _) | (with_reducible refine Kd.C_drew ?_))); (case side8 => exact HC1_7.out); rintro e w28 ⟨v214, v217, v220, v223, rfl, ho0, ho1, ho2, ho3, hb⟩; refine ⟨_, rfl, ?_⟩; have n0_ := Aside0.mk (Kd.R_lower ho0 (below_size (by repeat (first | (with_reducible first | exact HB.out | apply below_alloc | apply pw_below_drewN | apply below_drew1 | refine below_set ?_ GE204.out | refine below_set ?_ GE205.out) | exact HB.out)))); have n1_ := Aside0.mk (Kd.R_lower ho1 (below_size (by repeat (first | (with_reducible first | exact HB.out | apply below_alloc | apply pw_below_drewN | apply below_drew1 | refine below_set ?_ GE204.out | refine below_set ?_ GE205.out) | exact HB.out)))); have n2_ := Aside0.mk (Kd.S_lower ho2 (below_size (by repeat (first | (with_reducible first | exact HB.out | apply below_alloc | apply pw_below_drewN | apply below_drew1 | refine below_set ?_ GE204.out | refine below_set ?_ GE205.out) | exact HB.out)))); have n3_ := Aside0.mk (Kd.S_lower (Kd.S_newB ho3 (g := gb205) (o := .cells #[.int .i64 a1_0, .int .i64 a1_1, .int .i64 a1_2, .int .i64 a1_3, .int .i64 a1_4, .int .i64 a1_5, .int .i64 a1_6, .slice A1_7 l1_7.length c1_7] 28 (0, 0)) (by (with_reducible repeat (first | refine blk_drewN ?_ _ | refine blk_drew ?_ | refine blk_alloc ?_ _)); exact BK205.out)) (below_size (by repeat (first | (with_reducible first | exact HB.out | apply below_alloc | apply pw_below_drewN | apply below_drew1 | refine below_set ?_ GE204.out | refine below_set ?_ GE205.out) | exact HB.out)))); have n4_ := Aside0.mk (blk_below (g := gb204) (o := .cells #[.int .i64 a0_0, .int .i64 a0_1, .int .i64 a0_2, .int .i64 a0_3, .bool a0_4, .int .i64 a0_5, .slice A0_6 l0_6.length c0_6, .slice A0_7 l0_7.length c0_7, .slice A0_8 l0_8.length c0_8] 26 (0, 0)) (by (with_reducible repeat (first | refine blk_drewN ?_ _ | refine blk_drew ?_ | refine blk_alloc ?_ _)); exact BK204.out) hb); have n5_ := Aside0.mk (blk_below (g := gb205) (o := .cells #[.int .i64 a1_0, .int .i64 a1_1, .int .i64 a1_2, .int .i64 a1_3, .int .i64 a1_4, .int .i64 a1_5, .int .i64 a1_6, .slice A1_7 l1_7.length c1_7] 28 (0, 0)) (by (with_reducible repeat (first | refine blk_drewN ?_ _ | refine blk_drew ?_ | refine blk_alloc ?_ _)); exact BK205.out) hb); have n6_ := Aside0.mk (below_step (by repeat (first | (with_reducible first | exact HB.out | apply below_alloc | apply pw_below_drewN | apply below_drew1 | refine below_set ?_ GE204.out | refine below_set ?_ GE205.out) | exact HB.out)) hb); clear BK204; clear BK205; clear HB; have HO215 := n0_; have HO218 := n1_; have HO221 := n2_; have HO224 := n3_; have BK204 := n4_; have BK205 := n5_; have HB := n6_; clear n0_ n1_ n2_ n3_ n4_ n5_ n6_; (try clear hb); (try clear hb2); (try clear hk); (try clear hi); (try clear ho0); (try clear ho1); (try clear ho2); (try clear ho3)) | ((with_reducible refine gate_dst (N := 5) rfl ?_); (try (refine gate_guard (by rfl) ?_; dsimp only)); refine box_event ?hg (N := 5) ?hd (cs := #[.int .i64 0, .int .i64 0, .int .i64 0, .int .i64 0, .bool false, .int .i64 0, .slice none 0 0, .slice none 0 0, .slice none 0 0]) (t := 26) ?hr ?_; (case hd => rfl); (case hg => rfl); (case hr => first | (go_simp; done) | (go_simp; rfl)); intro gb226 hg w29 hbox hb; have n0_ := Aside0.mk (Kd.R_below (by (with_reducible repeat (first | apply Kd.R_alloc | apply Kd.R_drewN | apply Kd.R_drew)); exact HO215.out) hb); have n1_ := Aside0.mk (Kd.R_below (by (with_reducible repeat (first | apply Kd.R_alloc | apply Kd.R_drewN | apply Kd.R_drew)); exact HO218.out) hb); have n2_ := Aside0.mk (Kd.S_below (by (with_reducible repeat (first | apply Kd.S_alloc | apply Kd.S_drewN | apply Kd.S_drew)); exact HO221.out) hb); have n3_ := Aside0.mk (Kd.S_below (by (with_reducible repeat (first | apply Kd.S_alloc | apply Kd.S_drewN | apply Kd.S_drew)); exact HO224.out) hb); have n4_ := Aside0.mk (blk_below (g := gb204) (o := .cells #[.int .i64 a0_0, .int .i64 a0_1, .int .i64 a0_2, .int .i64 a0_3, .bool a0_4, .int .i64 a0_5, .slice A0_6 l0_6.length c0_6, .slice A0_7 l0_7.length c0_7, .slice A0_8 l0_8.length c0_8] 26 (0, 0)) (by (with_reducible repeat (first | refine blk_drewN ?_ _ | refine blk_drew ?_ | refine blk_alloc ?_ _)); exact BK204.out) hb); have n5_ := Aside0.mk (blk_below (g := gb205) (o := .cells #[.int .i64 a1_0, .int .i64 a1_1, .int .i64 a1_2, .int .i64 a1_3, .int .i64 a1_4, .int .i64 a1_5, .int .i64 a1_6, .slice A1_7 l1_7.length c1_7] 28 (0, 0)) (by (with_reducible repeat (first | refine blk_drewN ?_ _ | refine blk_drew ?_ | refine blk_alloc ?_ _)); exact BK205.out) hb); have n6_ := Aside0.mk (below_step (by repeat (first | (with_reducible first | exact HB.out | apply below_alloc | apply pw_below_drewN | apply below_drew1 | refine below_set ?_ GE204.out | refine below_set ?_ GE205.out) | exact HB.out)) hb); have n7_ := Aside0.mk (hbox); have n8_ := Aside0.mk ((by rw [hg]; exact (below_size (by repeat (first | (with_reducible first | exact HB.out | apply below_alloc | apply pw_below_drewN | apply below_drew1 | refine below_set ?_ GE204.out | refine below_set ?_ GE205.out) | exact HB.out))) : w.heap.size ≤ gb226)); have n9_ := Aside0.mk ((by rw [hg]; exact (below_size (by repeat (first | (with_reducible first | exact HB.out | apply below_alloc | apply pw_below_drewN | apply below_drew1 | refine below_set ?_ GE204.out | refine below_set ?_ GE205.out) | exact HB.out))) : w.heap.size ≤ gb226)); have n10_ := Aside0.mk ((by rw [hg]; exact Nat.ne_of_lt (blk_lt (g := gb204) (o := .cells #[.int .i64 a0_0, .int .i64 a0_1, .int .i64 a0_2, .int .i64 a0_3, .bool a0_4, .int .i64 a0_5, .slice A0_6 l0_6.length c0_6, .slice A0_7 l0_7.length c0_7, .slice A0_8 l0_8.length c0_8] 26 (0, 0)) (by (with_reducible repeat (first | refine blk_drewN ?_ _ | refine blk_drew ?_ | refine blk_alloc ?_ _)); exact BK204.out)) : gb204 ≠ gb226)); have n11_ := Aside0.mk ((by rw [hg]; exact Nat.ne_of_gt (blk_lt (g := gb204) (o := .cells #[.int .i64 a0_0, .int .i64 a0_1, .int .i64 a0_2, .int .i64 a0_3, .bool a0_4, .int .i64 a0_5, .slice A0_6 l0_6.length c0_6, .slice A0_7 l0_7.length c0_7, .slice A0_8 l0_8.length c0_8] 26 (0, 0)) (by (with_reducible repeat (first | refine blk_drewN ?_ _ | refine blk_drew ?_ | refine blk_alloc ?_ _)); exact BK204.out)) : gb226 ≠ gb204)); have n12_ := Aside0.mk ((by rw [hg]; exact Nat.ne_of_lt (blk_lt (g := gb205) (o := .cells #[.int .i64 a1_0, .int .i64 a1_1, .int .i64 a1_2, .int .i64 a1_3, .int .i64 a1_4, .int .i64 a1_5, .int .i64 a1_6, .slice A1_7 l1_7.length c1_7] 28 (0, 0)) (by (with_reducible repeat (first | refine blk_drewN ?_ _ | refine blk_drew ?_ | refine blk_alloc ?_ _)); exact BK205.out)) : gb205 ≠ gb226)); have n13_ := Aside0.mk ((by rw [hg]; exact Nat.ne_of_gt (blk_lt (g := gb205) (o := .cells #[.int .i64 a1_0, .int .i64 a1_1, .int .i64 a1_2, .int .i64 a1_3, .int .i64 a1_4, .int .i64 a1_5, .int .i64 a1_6, .slice A1_7 l1_7.length c1_7] 28 (0, 0)) (by (with_reducible repeat (first | refine blk_drewN ?_ _ | refine blk_drew ?_ | refine blk_alloc ?_ _)); exact BK205.out)) : gb226 ≠ gb205)); clear HO215; clear HO218; clear HO221; clear HO224; clear BK204; clear BK205; clear HB; have HO215 := n0_; have HO218 := n1_; have HO221 := n2_; have HO224 := n3_; have BK204 := n4_; have BK205 := n5_; have HB := n6_; have BK226 := n7_; have GW226 := n8_; have GE226 := n9_; have NB204_226 := n10_; have NB226_204 := n11_; have NB205_226 := n12_; have NB226_205 := n13_; clear n0_ n1_ n2_ n3_ n4_ n5_ n6_ n7_ n8_ n9_ n10_ n11_ n12_ n13_; clear hb hbox hg; have hnb30 := NB226_204.out; have hnc30 := NB204_226.out; have hnb31 := NB226_205.out; have hnc31 := NB205_226.out; have hcz32_0 : w29.cell? ⟨gb226, 0, none⟩ = some (.int .i64 0) := (blk_cell BK226.out 0).trans rfl; have hcz32_1 : w29.cell? ⟨gb226, 1, none⟩ = some (.int .i64 0) := (blk_cell BK226.out 1).trans rfl; have hcz32_2 : w29.cell? ⟨gb226, 2, none⟩ = some (.int .i64 0) := (blk_cell BK226.out 2).trans rfl; have hcz32_3 : w29.cell? ⟨gb226, 3, none⟩ = some (.int .i64 0) := (blk_cell BK226.out 3).trans rfl; have hcz32_4 : w29.cell? ⟨gb226, 4, none⟩ = some (.bool false) := (blk_cell BK226.out 4).trans rfl; have hcz32_5 : w29.cell? ⟨gb226, 5, none⟩ = some (.int .i64 0) := (blk_cell BK226.out 5).trans rfl; have hcz32_6 : w29.cell? ⟨gb226, 6, none⟩ = some (.slice none 0 0) := (blk_cell BK226.out 6).trans rfl; have hcz32_7 : w29.cell? ⟨gb226, 7, none⟩ = some (.slice none 0 0) := (blk_cell BK226.out 7).trans rfl; have hcz32_8 : w29.cell? ⟨gb226, 8, none⟩ = some (.slice none 0 0) := (blk_cell BK226.out 8).trans rfl; have hfz32_0 := blk_frozen BK226.out 0; have hfz32_1 := blk_frozen BK226.out 1; have hfz32_2 := blk_frozen BK226.out 2; have hfz32_3 := blk_frozen BK226.out 3; have hfz32_4 := blk_frozen BK226.out 4; have hfz32_5 := blk_frozen BK226.out 5; have hfz32_6 := blk_frozen BK226.out 6; have hfz32_7 := blk_frozen BK226.out 7; have hfz32_8 := blk_frozen BK226.out 8; obtain ⟨Ao33, co33, eo33⟩ := Kd.R_slice HO215.out; subst eo33; obtain ⟨Ao34, co34, eo34⟩ := Kd.R_slice HO218.out; subst eo34; obtain ⟨Ao35, co35, eo35⟩ := Kd.S_slice HO221.out; subst eo35) | ((with_reducible refine gate_callee (f := 9) rfl ?_); refine goesL_ (some 33) rfl rfl Try.func9 (by kernel_rfl) rfl #[] rfl (by (try simp only [List.map_toArray, List.map_cons, List.map_nil]); first | done | rfl | (simp only [List.length_drop, List.length_take]; rfl)) ?_; (with_reducible refine (sextonlaw24_worked.calls  true _ A21.out).mono ?_); rintro e w36 ⟨rfl, hb⟩; refine ⟨_, rfl, ?_⟩; have n0_ := Aside0.mk (Kd.R_below (by (with_reducible repeat (first | apply Kd.R_alloc | apply Kd.R_drewN | apply Kd.R_drew)); exact (Kd.R_mono (Kd.R_far (p := ⟨gb226, 8, none⟩) (Kd.R_far (p := ⟨gb226, 7, none⟩) (Kd.R_far (p := ⟨gb226, 6, none⟩) (Kd.R_far (p := ⟨gb226, 5, none⟩) (Kd.R_far (p := ⟨gb226, 4, none⟩) (Kd.R_far (p := ⟨gb226, 3, none⟩) (Kd.R_far (p := ⟨gb226, 2, none⟩) (Kd.R_far (p := ⟨gb226, 1, none⟩) (Kd.R_far (p := ⟨gb226, 0, none⟩) (Kd.R_types HO215.out BK226.out (by decide)) (fun _ hk => hk.2) (.int .i64 t207)) (fun _ hk => hk.2) (.int .i64 t208)) (fun _ hk => hk.2) (.int .i64 t209)) (fun _ hk => hk.2) (.int .i64 t210)) (fun _ hk => hk.2) (.bool t211)) (fun _ hk => hk.2) (.int .i64 t212)) (fun _ hk => hk.2) (.slice Ao33 t213.length co33)) (fun _ hk => hk.2) (.slice Ao34 t216.length co34)) (fun _ hk => hk.2) (.slice Ao35 t219.length co35)) (fun _ h_ => h_.1))) hb); have n1_ := Aside0.mk (Kd.R_below (by (with_reducible repeat (first | apply Kd.R_alloc | apply Kd.R_drewN | apply Kd.R_drew)); exact (Kd.R_mono (Kd.R_far (p := ⟨gb226, 8, none⟩) (Kd.R_far (p := ⟨gb226, 7, none⟩) (Kd.R_far (p := ⟨gb226, 6, none⟩) (Kd.R_far (p := ⟨gb226, 5, none⟩) (Kd.R_far (p := ⟨gb226, 4, none⟩) (Kd.R_far (p := ⟨gb226, 3, none⟩) (Kd.R_far (p := ⟨gb226, 2, none⟩) (Kd.R_far (p := ⟨gb226, 1, none⟩) (Kd.R_far (p := ⟨gb226, 0, none⟩) (Kd.R_types HO218.out BK226.out (by decide)) (fun _ hk => hk.2) (.int .i64 t207)) (fun _ hk => hk.2) (.int .i64 t208)) (fun _ hk => hk.2) (.int .i64 t209)) (fun _ hk => hk.2) (.int .i64 t210)) (fun _ hk => hk.2) (.bool t211)) (fun _ hk => hk.2) (.int .i64 t212)) (fun _ hk => hk.2) (.slice Ao33 t213.length co33)) (fun _ hk => hk.2) (.slice Ao34 t216.length co34)) (fun _ hk => hk.2) (.slice Ao35 t219.length co35)) (fun _ h_ => h_.1))) hb); have n2_ := Aside0.mk (Kd.S_below (by (with_reducible repeat (first | apply Kd.S_alloc | apply Kd.S_drewN | apply Kd.S_drew)); exact (Kd.S_mono (Kd.S_far (p := ⟨gb226, 8, none⟩) (Kd.S_far (p := ⟨gb226, 7, none⟩) (Kd.S_far (p := ⟨gb226, 6, none⟩) (Kd.S_far (p := ⟨gb226, 5, none⟩) (Kd.S_far (p := ⟨gb226, 4, none⟩) (Kd.S_far (p := ⟨gb226, 3, none⟩) (Kd.S_far (p := ⟨gb226, 2, none⟩) (Kd.S_far (p := ⟨gb226, 1, none⟩) (Kd.S_far (p := ⟨gb226, 0, none⟩) (Kd.S_types HO221.out BK226.out (by decide)) (fun _ hk => hk.2) (.int .i64 t207)) (fun _ hk => hk.2) (.int .i64 t208)) (fun _ hk => hk.2) (.int .i64 t209)) (fun _ hk => hk.2) (.int .i64 t210)) (fun _ hk => hk.2) (.bool t211)) (fun _ hk => hk.2) (.int .i64 t212)) (fun _ hk => hk.2) (.slice Ao33 t213.length co33)) (fun _ hk => hk.2) (.slice Ao34 t216.length co34)) (fun _ hk => hk.2) (.slice Ao35 t219.length co35)) (fun _ h_ => h_.1))) hb); have n3_ := Aside0.mk (Kd.S_below (by (with_reducible repeat (first | apply Kd.S_alloc | apply Kd.S_drewN | apply Kd.S_drew)); exact (Kd.S_mono (Kd.S_far (p := ⟨gb226, 8, none⟩) (Kd.S_far (p := ⟨gb226, 7, none⟩) (Kd.S_far (p := ⟨gb226, 6, none⟩) (Kd.S_far (p := ⟨gb226, 5, none⟩) (Kd.S_far (p := ⟨gb226, 4, none⟩) (Kd.S_far (p := ⟨gb226, 3, none⟩) (Kd.S_far (p := ⟨gb226, 2, none⟩) (Kd.S_far (p := ⟨gb226, 1, none⟩) (Kd.S_far (p := ⟨gb226, 0, none⟩) (Kd.S_types HO224.out BK226.out (by decide)) (fun _ hk => hk.2) (.int .i64 t207)) (fun _ hk => hk.2) (.int .i64 t208)) (fun _ hk => hk.2) (.int .i64 t209)) (fun _ hk => hk.2) (.int .i64 t210)) (fun _ hk => hk.2) (.bool t211)) (fun _ hk => hk.2) (.int .i64 t212)) (fun _ hk => hk.2) (.slice Ao33 t213.length co33)) (fun _ hk => hk.2) (.slice Ao34 t216.length co34)) (fun _ hk => hk.2) (.slice Ao35 t219.length co35)) (fun _ h_ => h_.1))) hb); have n4_ := Aside0.mk (blk_below (g := gb204) (o := .cells #[.int .i64 a0_0, .int .i64 a0_1, .int .i64 a0_2, .int .i64 a0_3, .bool a0_4, .int .i64 a0_5, .slice A0_6 l0_6.length c0_6, .slice A0_7 l0_7.length c0_7, .slice A0_8 l0_8.length c0_8] 26 (0, 0)) (by (with_reducible repeat (first | refine blk_drewN ?_ _ | refine blk_drew ?_ | refine blk_alloc ?_ _)); refine blk_far ?_ NB204_226.out _; (with_reducible repeat (first | refine blk_drewN ?_ _ | refine blk_drew ?_ | refine blk_alloc ?_ _)); refine blk_far ?_ NB204_226.out _; (with_reducible repeat (first | refine blk_drewN ?_ _ | refine blk_drew ?_ | refine blk_alloc ?_ _)); refine blk_far ?_ NB204_226.out _; (with_reducible repeat (first | refine blk_drewN ?_ _ | refine blk_drew ?_ | refine blk_alloc ?_ _)); refine blk_far ?_ NB204_226.out _; (with_reducible repeat (first | refine blk_drewN ?_ _ | refine blk_drew ?_ | refine blk_alloc ?_ _)); refine blk_far ?_ NB204_226.out _; (with_reducible repeat (first | refine blk_drewN ?_ _ | refine blk_drew ?_ | refine blk_alloc ?_ _)); refine blk_far ?_ NB204_226.out _; (with_reducible repeat (first | refine blk_drewN ?_ _ | refine blk_drew ?_ | refine blk_alloc ?_ _)); refine blk_far ?_ NB204_226.out _; (with_reducible repeat (first | refine blk_drewN ?_ _ | refine blk_drew ?_ | refine blk_alloc ?_ _)); refine blk_far ?_ NB204_226.out _; (with_reducible repeat (first | refine blk_drewN ?_ _ | refine blk_drew ?_ | refine blk_alloc ?_ _)); refine blk_far ?_ NB204_226.out _; (with_reducible repeat (first | refine blk_drewN ?_ _ | refine blk_drew ?_ | refine blk_alloc ?_ _)); exact BK204.out) hb); have n5_ := Aside0.mk (blk_below (g := gb205) (o := .cells #[.int .i64 a1_0, .int .i64 a1_1, .int .i64 a1_2, .int .i64 a1_3, .int .i64 a1_4, .int .i64 a1_5, .int .i64 a1_6, .slice A1_7 l1_7.length c1_7] 28 (0, 0)) (by (with_reducible repeat (first | refine blk_drewN ?_ _ | refine blk_drew ?_ | refine blk_alloc ?_ _)); refine blk_far ?_ NB205_226.out _; (with_reducible repeat (first | refine blk_drewN ?_ _ | refine blk_drew ?_ | refine blk_alloc ?_ _)); refine blk_far ?_ NB205_226.out _; (with_reducible repeat (first | refine blk_drewN ?_ _ | refine blk_drew ?_ | refine blk_alloc ?_ _)); refine blk_far ?_ NB205_226.out _; (with_reducible repeat (first | refine blk_drewN ?_ _ | refine blk_drew ?_ | refine blk_alloc ?_ _)); refine blk_far ?_ NB205_226.out _; (with_reducible repeat (first | refine blk_drewN ?_ _ | refine blk_drew ?_ | refine blk_alloc ?_ _)); refine blk_far ?_ NB205_226.out _; (with_reducible repeat (first | refine blk_drewN ?_ _ | refine blk_drew ?_ | refine blk_alloc ?_ _)); refine blk_far ?_ NB205_226.out _; (with_reducible repeat (first | refine blk_drewN ?_ _ | refine blk_drew ?_ | refine blk_alloc ?_ _)); refine blk_far ?_ NB205_226.out _; (with_reducible repeat (first | refine blk_drewN ?_ _ | refine blk_drew ?_ | refine blk_alloc ?_ _)); refine blk_far ?_ NB205_226.out _; (with_reducible repeat (first | refine blk_drewN ?_ _ | refine blk_drew ?_ | refine blk_alloc ?_ _)); refine blk_far ?_ NB205_226.out _; (with_reducible repeat (first | refine blk_drewN ?_ _ | refine blk_drew ?_ | refine blk_alloc ?_ _)); exact BK205.out) hb); have n6_ := Aside0.mk (blk_below (g := gb226) (o := .cells #[.int .i64 t207, .int .i64 t208, .int .i64 t209, .int .i64 t210, .bool t211, .int .i64 t212, .slice Ao33 t213.length co33, .slice Ao34 t216.length co34, .slice Ao35 t219.length co35] 26 (0, 0)) (by (with_reducible repeat (first | refine blk_drewN ?_ _ | refine blk_drew ?_ | refine blk_alloc ?_ _)); refine blk_put (cs := #[.int .i64 t207, .int .i64 t208, .int .i64 t209, .int .i64 t210, .bool t211, .int .i64 t212, .slice Ao33 t213.length co33, .slice Ao34 t216.length co34, .slice none 0 0]) ?_ 8 _ rfl; (with_reducible repeat (first | refine blk_drewN ?_ _ | refine blk_drew ?_ | refine blk_alloc ?_ _)); refine blk_put (cs := #[.int .i64 t207, .int .i64 t208, .int .i64 t209, .int .i64 t210, .bool t211, .int .i64 t212, .slice Ao33 t213.length co33, .slice none 0 0, .slice none 0 0]) ?_ 7 _ rfl; (with_reducible repeat (first | refine blk_drewN ?_ _ | refine blk_drew ?_ | refine blk_alloc ?_ _)); refine blk_put (cs := #[.int .i64 t207, .int .i64 t208, .int .i64 t209, .int .i64 t210, .bool t211, .int .i64 t212, .slice none 0 0, .slice none 0 0, .slice none 0 0]) ?_ 6 _ rfl; (with_reducible repeat (first | refine blk_drewN ?_ _ | refine blk_drew ?_ | refine blk_alloc ?_ _)); refine blk_put (cs := #[.int .i64 t207, .int .i64 t208, .int .i64 t209, .int .i64 t210, .bool t211, .int .i64 0, .slice none 0 0, .slice none 0 0, .slice none 0 0]) ?_ 5 _ rfl; (with_reducible repeat (first | refine blk_drewN ?_ _ | refine blk_drew ?_ | refine blk_alloc ?_ _)); refine blk_put (cs := #[.int .i64 t207, .int .i64 t208, .int .i64 t209, .int .i64 t210, .bool false, .int .i64 0, .slice none 0 0, .slice none 0 0, .slice none 0 0]) ?_ 4 _ rfl; (with_reducible repeat (first | refine blk_drewN ?_ _ | refine blk_drew ?_ | refine blk_alloc ?_ _)); refine blk_put (cs := #[.int .i64 t207, .int .i64 t208, .int .i64 t209, .int .i64 0, .bool false, .int .i64 0, .slice none 0 0, .slice none 0 0, .slice none 0 0]) ?_ 3 _ rfl; (with_reducible repeat (first | refine blk_drewN ?_ _ | refine blk_drew ?_ | refine blk_alloc ?_ _)); refine blk_put (cs := #[.int .i64 t207, .int .i64 t208, .int .i64 0, .int .i64 0, .bool false, .int .i64 0, .slice none 0 0, .slice none 0 0, .slice none 0 0]) ?_ 2 _ rfl; (with_reducible repeat (first | refine blk_drewN ?_ _ | refine blk_drew ?_ | refine blk_alloc ?_ _)); refine blk_put (cs := #[.int .i64 t207, .int .i64 0, .int .i64 0, .int .i64 0, .bool false, .int .i64 0, .slice none 0 0, .slice none 0 0, .slice none 0 0]) ?_ 1 _ rfl; (with_reducible repeat (first | refine blk_drewN ?_ _ | refine blk_drew ?_ | refine blk_alloc ?_ _)); refine blk_put (cs := #[.int .i64 0, .int .i64 0, .int .i64 0, .int .i64 0, .bool false, .int .i64 0, .slice none 0 0, .slice none 0 0, .slice none 0 0]) ?_ 0 _ rfl; (with_reducible repeat (first | refine blk_drewN ?_ _ | refine blk_drew ?_ | refine blk_alloc ?_ _)); exact BK226.out) hb); have n7_ := Aside0.mk (below_step (by repeat (first | (with_reducible first | exact HB.out | apply below_alloc | apply pw_below_drewN | apply below_drew1 | refine below_set ?_ GE204.out | refine below_set ?_ GE205.out | refine below_set ?_ GE226.out) | exact HB.out)) hb); clear HO215; clear HO218; clear HO221; clear HO224; clear BK204; clear BK205; clear BK226; clear HB; have HO215 := n0_; have HO218 := n1_; have HO221 := n2_; have HO224 := n3_; have BK204 := n4_; have BK205 := n5_; have BK226 := n6_; have HB := n7_; clear n0_ n1_ n2_ n3_ n4_ n5_ n6_ n7_; (try clear hb); (try clear hb2); (try clear hk); (try clear hi); have hcz37_0 : w36.cell? ⟨gb226, 0, none⟩ = some (.int .i64 t207) := (blk_cell BK226.out 0).trans rfl; have hcz37_1 : w36.cell? ⟨gb226, 1, none⟩ = some (.int .i64 t208) := (blk_cell BK226.out 1).trans rfl; have hcz37_2 : w36.cell? ⟨gb226, 2, none⟩ = some (.int .i64 t209) := (blk_cell BK226.out 2).trans rfl; have hcz37_3 : w36.cell? ⟨gb226, 3, none⟩ = some (.int .i64 t210) := (blk_cell BK226.out 3).trans rfl; have hcz37_4 : w36.cell? ⟨gb226, 4, none⟩ = some (.bool t211) := (blk_cell BK226.out 4).trans rfl; have hcz37_5 : w36.cell? ⟨gb226, 5, none⟩ = some (.int .i64 t212) := (blk_cell BK226.out 5).trans rfl; have hcz37_6 : w36.cell? ⟨gb226, 6, none⟩ = some (.slice Ao33 t213.length co33) := (blk_cell BK226.out 6).trans rfl; have hcz37_7 : w36.cell? ⟨gb226, 7, none⟩ = some (.slice Ao34 t216.length co34) := (blk_cell BK226.out 7).trans rfl; have hcz37_8 : w36.cell? ⟨gb226, 8, none⟩ = some (.slice Ao35 t219.length co35) := (blk_cell BK226.out 8).trans rfl; have hfz37_0 := blk_frozen BK226.out 0; have hfz37_1 := blk_frozen BK226.out 1; have hfz37_2 := blk_frozen BK226.out 2; have hfz37_3 := blk_frozen BK226.out 3; have hfz37_4 := blk_frozen BK226.out 4; have hfz37_5 := blk_frozen BK226.out 5; have hfz37_6 := blk_frozen BK226.out 6; have hfz37_7 := blk_frozen BK226.out 7; have hfz37_8 := blk_frozen BK226.out 8; have hcz38_0 : w36.cell? ⟨gb204, 0, none⟩ = some (.int .i64 a0_0) := (blk_cell BK204.out 0).trans rfl; have hcz38_1 : w36.cell? ⟨gb204, 1, none⟩ = some (.int .i64 a0_1) := (blk_cell BK204.out 1).trans rfl; have hcz38_2 : w36.cell? ⟨gb204, 2, none⟩ = some (.int .i64 a0_2) := (blk_cell BK204.out 2).trans rfl; have hcz38_3 : w36.cell? ⟨gb204, 3, none⟩ = some (.int .i64 a0_3) := (blk_cell BK204.out 3).trans rfl; have hcz38_4 : w36.cell? ⟨gb204, 4, none⟩ = some (.bool a0_4) := (blk_cell BK204.out 4).trans rfl; have hcz38_5 : w36.cell? ⟨gb204, 5, none⟩ = some (.int .i64 a0_5) := (blk_cell BK204.out 5).trans rfl; have hcz38_6 : w36.cell? ⟨gb204, 6, none⟩ = some (.slice A0_6 l0_6.length c0_6) := (blk_cell BK204.out 6).trans rfl; have hcz38_7 : w36.cell? ⟨gb204, 7, none⟩ = some (.slice A0_7 l0_7.length c0_7) := (blk_cell BK204.out 7).trans rfl; have hcz38_8 : w36.cell? ⟨gb204, 8, none⟩ = some (.slice A0_8 l0_8.length c0_8) := (blk_cell BK204.out 8).trans rfl; have hfz38_0 := blk_frozen BK204.out 0; have hfz38_1 := blk_frozen BK204.out 1; have hfz38_2 := blk_frozen BK204.out 2; have hfz38_3 := blk_frozen BK204.out 3; have hfz38_4 := blk_frozen BK204.out 4; have hfz38_5 := blk_frozen BK204.out 5; have hfz38_6 := blk_frozen BK204.out 6; have hfz38_7 := blk_frozen BK204.out 7; have hfz38_8 := blk_frozen BK204.out 8) | (go_at_call 10; (with_reducible refine (sextonref24_Same.calls kj2 t207 t208 t209 t210 t211 t212 _ _ t213 _ _ t216 _ _ t219 a0_0 a0_1 a0_2 a0_3 a0_4 a0_5 _ _ l0_6 _ _ l0_7 _ _ l0_8 true _ ?side1 ?side2 ?side3 ?side4 ?side5 ?side6 ?side7 ?side8 ?side9 ?side10 ?side11 ?side12 A23.out).mono ?_); (case side1 => repeat (first | exact (Kd.R_reads' HO215.out).2.2 | (with_reducible refine Kd.C_alloc ?_ _) | (with_reducible refine Kd.C_drewN ?_ _) | (with_reducible refine Kd.C_drew ?_))); (case side2 => exact (Kd.R_reads' HO215.out).2.1); (case side3 => repeat (first | exact (Kd.R_reads' HO218.out).2.2 | (with_reducible refine Kd.C_alloc ?_ _) | (with_reducible refine Kd.C_drewN ?_ _) | (with_reducible refine Kd.C_drew ?_))); (case side4 => exact (Kd.R_reads' HO218.out).2.1); (case side5 => repeat (first | exact (Kd.S_reads' HO221.out).2.2 | (with_reducible refine Kd.C_alloc ?_ _) | (with_reducible refine Kd.C_drewN ?_ _) | (with_reducible refine Kd.C_drew ?_))); (case side6 => exact (Kd.S_reads' HO221.out).2.1); (case side7 => repeat (first | exact (Kd.C_below HR0_6.out HB.out) | (with_reducible refine Kd.C_alloc ?_ _) | (with_reducible refine Kd.C_drewN ?_ _) | (with_reducible refine Kd.C_drew ?_))); (case side8 => exact HC0_6.out); (case side9 => repeat (first | exact (Kd.C_below HR0_7.out HB.out) | (with_reducible refine Kd.C_alloc ?_ _) | (with_reducible refine Kd.C_drewN ?_ _) | (with_reducible refine Kd.C_drew ?_))); (case side10 => exact HC0_7.out); (case side11 => repeat (first | exact (Kd.C_below HR0_8.out HB.out) | (with_reducible refine Kd.C_alloc ?_ _) | (with_reducible refine Kd.C_drewN ?_ _) | (with_reducible refine Kd.C_drew ?_))); (case side12 => exact HC0_8.out); rintro e w39 ⟨rfl, hb⟩; have n0_ := Aside0.mk (Kd.R_below (by (with_reducible repeat (first | apply Kd.R_alloc | apply Kd.R_drewN | apply Kd.R_drew)); exact HO215.out) hb); have n1_ := Aside0.mk (Kd.R_below (by (with_reducible repeat (first | apply Kd.R_alloc | apply Kd.R_drewN | apply Kd.R_drew)); exact HO218.out) hb); have n2_ := Aside0.mk (Kd.S_below (by (with_reducible repeat (first | apply Kd.S_alloc | apply Kd.S_drewN | apply Kd.S_drew)); exact HO221.out) hb); have n3_ := Aside0.mk (Kd.S_below (by (with_reducible repeat (first | apply Kd.S_alloc | apply Kd.S_drewN | apply Kd.S_drew)); exact HO224.out) hb); have n4_ := Aside0.mk (blk_below (g := gb204) (o := .cells #[.int .i64 a0_0, .int .i64 a0_1, .int .i64 a0_2, .int .i64 a0_3, .bool a0_4, .int .i64 a0_5, .slice A0_6 l0_6.length c0_6, .slice A0_7 l0_7.length c0_7, .slice A0_8 l0_8.length c0_8] 26 (0, 0)) (by (with_reducible repeat (first | refine blk_drewN ?_ _ | refine blk_drew ?_ | refine blk_alloc ?_ _)); exact BK204.out) hb); have n5_ := Aside0.mk (blk_below (g := gb205) (o := .cells #[.int .i64 a1_0, .int .i64 a1_1, .int .i64 a1_2, .int .i64 a1_3, .int .i64 a1_4, .int .i64 a1_5, .int .i64 a1_6, .slice A1_7 l1_7.length c1_7] 28 (0, 0)) (by (with_reducible repeat (first | refine blk_drewN ?_ _ | refine blk_drew ?_ | refine blk_alloc ?_ _)); exact BK205.out) hb); have n6_ := Aside0.mk (blk_below (g := gb226) (o := .cells #[.int .i64 t207, .int .i64 t208, .int .i64 t209, .int .i64 t210, .bool t211, .int .i64 t212, .slice Ao33 t213.length co33, .slice Ao34 t216.length co34, .slice Ao35 t219.length co35] 26 (0, 0)) (by (with_reducible repeat (first | refine blk_drewN ?_ _ | refine blk_drew ?_ | refine blk_alloc ?_ _)); exact BK226.out) hb); have n7_ := Aside0.mk (below_step (by repeat (first | (with_reducible first | exact HB.out | apply below_alloc | apply pw_below_drewN | apply below_drew1 | refine below_set ?_ GE204.out | refine below_set ?_ GE205.out | refine below_set ?_ GE226.out) | exact HB.out)) hb); clear HO215; clear HO218; clear HO221; clear HO224; clear BK204; clear BK205; clear BK226; clear HB; have HO215 := n0_; have HO218 := n1_; have HO221 := n2_; have HO224 := n3_; have BK204 := n4_; have BK205 := n5_; have BK226 := n6_; have HB := n7_; clear n0_ n1_ n2_ n3_ n4_ n5_ n6_ n7_; (try clear hb); (try clear hb2); (try clear hk); (try clear hi); obtain ⟨Ao40, co40, eo40⟩ := Kd.S_slice HO224.out; subst eo40))
              go_ret
              exact ⟨by first | rfl | (simp [errW_none, errW_some] <;> rfl) | (simp [*, errW_none, errW_some] <;> rfl), by repeat (first | (with_reducible first | exact HB.out | apply below_alloc | apply pw_below_drewN | apply below_drew1 | refine below_set ?_ GE204.out | refine below_set ?_ GE205.out | refine below_set ?_ GE226.out) | exact HB.out)⟩
            · replace c24 := Bool.eq_false_iff.mpr c24
              subst c24
              have H1 : (some false) = some r := by rw [if_neg (show ¬ (false = true) by decide)] at H; exact H
              clear H
              have H := H1
              clear H1
              exact absurd (H.trans (congrArg some HT.out)) (by simp)
          · replace c22 := Bool.eq_false_iff.mpr c22
            subst c22
            have H1 : (some false) = some r := by rw [if_neg (show ¬ (false = true) by decide)] at H; exact H
            clear H
            have H := H1
            clear H1
            exact absurd (H.trans (congrArg some HT.out)) (by simp)
        · rw [if_neg c20] at H
          have c20b0 : (t225 == 0) = false := beq_eq_false_iff_ne.mpr c20
          have c20b1 : (t225 != 0) = true := bne_iff_ne.mpr c20
          replace H := Option.bind_eq_some_iff.mp H
          obtain ⟨t229, A410, H⟩ := H
          replace H : (if t229 = true then (some ((t222.length : Int) == 0)) else (some false)) = some r := H
          have A41 := Aside0.mk A410
          clear A410
          by_cases c42 : t229 = true
          · subst c42
            have H1 : (some ((t222.length : Int) == 0)) = some r := by rw [if_pos rfl] at H; exact H
            clear H
            have H := H1
            clear H1
            obtain rfl := Option.some.inj H
            have hnb43 := NB204_205.out
            have hnc43 := NB205_204.out
            have hcz44_0 : wc.cell? ⟨gb204, 0, none⟩ = some (.int .i64 a0_0) := (blk_cell BK204.out 0).trans rfl
            have hcz44_1 : wc.cell? ⟨gb204, 1, none⟩ = some (.int .i64 a0_1) := (blk_cell BK204.out 1).trans rfl
            have hcz44_2 : wc.cell? ⟨gb204, 2, none⟩ = some (.int .i64 a0_2) := (blk_cell BK204.out 2).trans rfl
            have hcz44_3 : wc.cell? ⟨gb204, 3, none⟩ = some (.int .i64 a0_3) := (blk_cell BK204.out 3).trans rfl
            have hcz44_4 : wc.cell? ⟨gb204, 4, none⟩ = some (.bool a0_4) := (blk_cell BK204.out 4).trans rfl
            have hcz44_5 : wc.cell? ⟨gb204, 5, none⟩ = some (.int .i64 a0_5) := (blk_cell BK204.out 5).trans rfl
            have hcz44_6 : wc.cell? ⟨gb204, 6, none⟩ = some (.slice A0_6 l0_6.length c0_6) := (blk_cell BK204.out 6).trans rfl
            have hcz44_7 : wc.cell? ⟨gb204, 7, none⟩ = some (.slice A0_7 l0_7.length c0_7) := (blk_cell BK204.out 7).trans rfl
            have hcz44_8 : wc.cell? ⟨gb204, 8, none⟩ = some (.slice A0_8 l0_8.length c0_8) := (blk_cell BK204.out 8).trans rfl
            have hfz44_0 := blk_frozen BK204.out 0
            have hfz44_1 := blk_frozen BK204.out 1
            have hfz44_2 := blk_frozen BK204.out 2
            have hfz44_3 := blk_frozen BK204.out 3
            have hfz44_4 := blk_frozen BK204.out 4
            have hfz44_5 := blk_frozen BK204.out 5
            have hfz44_6 := blk_frozen BK204.out 6
            have hfz44_7 := blk_frozen BK204.out 7
            have hfz44_8 := blk_frozen BK204.out 8
            have hcz45_0 : wc.cell? ⟨gb205, 0, none⟩ = some (.int .i64 a1_0) := (blk_cell BK205.out 0).trans rfl
            have hcz45_1 : wc.cell? ⟨gb205, 1, none⟩ = some (.int .i64 a1_1) := (blk_cell BK205.out 1).trans rfl
            have hcz45_2 : wc.cell? ⟨gb205, 2, none⟩ = some (.int .i64 a1_2) := (blk_cell BK205.out 2).trans rfl
            have hcz45_3 : wc.cell? ⟨gb205, 3, none⟩ = some (.int .i64 a1_3) := (blk_cell BK205.out 3).trans rfl
            have hcz45_4 : wc.cell? ⟨gb205, 4, none⟩ = some (.int .i64 a1_4) := (blk_cell BK205.out 4).trans rfl
            have hcz45_5 : wc.cell? ⟨gb205, 5, none⟩ = some (.int .i64 a1_5) := (blk_cell BK205.out 5).trans rfl
            have hcz45_6 : wc.cell? ⟨gb205, 6, none⟩ = some (.int .i64 a1_6) := (blk_cell BK205.out 6).trans rfl
            have hcz45_7 : wc.cell? ⟨gb205, 7, none⟩ = some (.slice A1_7 l1_7.length c1_7) := (blk_cell BK205.out 7).trans rfl
            have hfz45_0 := blk_frozen BK205.out 0
            have hfz45_1 := blk_frozen BK205.out 1
            have hfz45_2 := blk_frozen BK205.out 2
            have hfz45_3 := blk_frozen BK205.out 3
            have hfz45_4 := blk_frozen BK205.out 4
            have hfz45_5 := blk_frozen BK205.out 5
            have hfz45_6 := blk_frozen BK205.out 6
            have hfz45_7 := blk_frozen BK205.out 7
            go_wp2_with (first | ((with_reducible refine gate_callee (f := 8) rfl ?_); refine goesL_ (some 21) rfl rfl Try.func8 (by kernel_rfl) rfl #[.agg #[.int .i64 a0_0, .int .i64 a0_1, .int .i64 a0_2, .int .i64 a0_3, .bool a0_4, .int .i64 a0_5, .slice A0_6 l0_6.length c0_6, .slice A0_7 l0_7.length c0_7, .slice A0_8 l0_8.length c0_8], .agg #[.int .i64 a1_0, .int .i64 a1_1, .int .i64 a1_2, .int .i64 a1_3, .int .i64 a1_4, .int .i64 a1_5, .int .i64 a1_6, .slice A1_7 l1_7.length c1_7]] rfl (by (try simp only [List.map_toArray, List.map_cons, List.map_nil]); first | done | rfl | (simp only [List.length_drop, List.length_take]; rfl)) ?_; (with_reducible refine (replica_Handle.calls a0_0 a0_1 a0_2 a0_3 a0_4 a0_5 _ _ l0_6 _ _ l0_7 _ _ l0_8 a1_0 a1_1 a1_2 a1_3 a1_4 a1_5 a1_6 _ _ l1_7 t207 t208 t209 t210 t211 t212 t213 t216 t219 t222 t225 _ ?side1 ?side2 ?side3 ?side4 ?side5 ?side6 ?side7 ?side8 A19.out).mono ?_); (case side1 => repeat (first | exact (Kd.C_below HR0_6.out HB.out) | (with_reducible refine Kd.C_alloc ?_ _) | (with_reducible refine Kd.C_drewN ?_ _) | (with_reducible refine Kd.C_drew ?_))); (case side2 => exact HC0_6.out); (case side3 => repeat (first | exact (Kd.C_below HR0_7.out HB.out) | (with_reducible refine Kd.C_alloc ?_ _) | (with_reducible refine Kd.C_drewN ?_ _) | (with_reducible refine Kd.C_drew ?_))); (case side4 => exact HC0_7.out); (case side5 => repeat (first | exact (Kd.C_below HR0_8.out HB.out) | (with_reducible refine Kd.C_alloc ?_ _) | (with_reducible refine Kd.C_drewN ?_ _) | (with_reducible refine Kd.C_drew ?_))); (case side6 => exact HC0_8.out); (case side7 => repeat (first | exact (Kd.C_below HR1_7.out HB.out) | (with_reducible refine Kd.C_alloc ?_ _) | (with_reducible refine Kd.C_drewN ?_ _) | (with_reducible refine Kd.C_drew ?_))); (case side8 => exact HC1_7.out); rintro e w46 ⟨v214, v217, v220, v223, rfl, ho0, ho1, ho2, ho3, hb⟩; refine ⟨_, rfl, ?_⟩; have n0_ := Aside0.mk (Kd.R_lower ho0 (below_size (by repeat (first | (with_reducible first | exact HB.out | apply below_alloc | apply pw_below_drewN | apply below_drew1 | refine below_set ?_ GE204.out | refine below_set ?_ GE205.out) | exact HB.out)))); have n1_ := Aside0.mk (Kd.R_lower ho1 (below_size (by repeat (first | (with_reducible first | exact HB.out | apply below_alloc | apply pw_below_drewN | apply below_drew1 | refine below_set ?_ GE204.out | refine below_set ?_ GE205.out) | exact HB.out)))); have n2_ := Aside0.mk (Kd.S_lower ho2 (below_size (by repeat (first | (with_reducible first | exact HB.out | apply below_alloc | apply pw_below_drewN | apply below_drew1 | refine below_set ?_ GE204.out | refine below_set ?_ GE205.out) | exact HB.out)))); have n3_ := Aside0.mk (Kd.S_lower (Kd.S_newB ho3 (g := gb205) (o := .cells #[.int .i64 a1_0, .int .i64 a1_1, .int .i64 a1_2, .int .i64 a1_3, .int .i64 a1_4, .int .i64 a1_5, .int .i64 a1_6, .slice A1_7 l1_7.length c1_7] 28 (0, 0)) (by (with_reducible repeat (first | refine blk_drewN ?_ _ | refine blk_drew ?_ | refine blk_alloc ?_ _)); exact BK205.out)) (below_size (by repeat (first | (with_reducible first | exact HB.out | apply below_alloc | apply pw_below_drewN | apply below_drew1 | refine below_set ?_ GE204.out | refine below_set ?_ GE205.out) | exact HB.out)))); have n4_ := Aside0.mk (blk_below (g := gb204) (o := .cells #[.int .i64 a0_0, .int .i64 a0_1, .int .i64 a0_2, .int .i64 a0_3, .bool a0_4, .int .i64 a0_5, .slice A0_6 l0_6.length c0_6, .slice A0_7 l0_7.length c0_7, .slice A0_8 l0_8.length c0_8] 26 (0, 0)) (by (with_reducible repeat (first | refine blk_drewN ?_ _ | refine blk_drew ?_ | refine blk_alloc ?_ _)); exact BK204.out) hb); have n5_ := Aside0.mk (blk_below (g := gb205) (o := .cells #[.int .i64 a1_0, .int .i64 a1_1, .int .i64 a1_2, .int .i64 a1_3, .int .i64 a1_4, .int .i64 a1_5, .int .i64 a1_6, .slice A1_7 l1_7.length c1_7] 28 (0, 0)) (by (with_reducible repeat (first | refine blk_drewN ?_ _ | refine blk_drew ?_ | refine blk_alloc ?_ _)); exact BK205.out) hb); have n6_ := Aside0.mk (below_step (by repeat (first | (with_reducible first | exact HB.out | apply below_alloc | apply pw_below_drewN | apply below_drew1 | refine below_set ?_ GE204.out | refine below_set ?_ GE205.out) | exact HB.out)) hb); clear BK204; clear BK205; clear HB; have HO215 := n0_; have HO218 := n1_; have HO221 := n2_; have HO224 := n3_; have BK204 := n4_; have BK205 := n5_; have HB := n6_; clear n0_ n1_ n2_ n3_ n4_ n5_ n6_; (try clear hb); (try clear hb2); (try clear hk); (try clear hi); (try clear ho0); (try clear ho1); (try clear ho2); (try clear ho3)) | ((with_reducible refine gate_dst (N := 5) rfl ?_); (try (refine gate_guard (by rfl) ?_; dsimp only)); refine box_event ?hg (N := 5) ?hd (cs := #[.int .i64 0, .int .i64 0, .int .i64 0, .int .i64 0, .bool false, .int .i64 0, .slice none 0 0, .slice none 0 0, .slice none 0 0]) (t := 26) ?hr ?_; (case hd => rfl); (case hg => rfl); (case hr => first | (go_simp; done) | (go_simp; rfl)); intro gb226 hg w47 hbox hb; have n0_ := Aside0.mk (Kd.R_below (by (with_reducible repeat (first | apply Kd.R_alloc | apply Kd.R_drewN | apply Kd.R_drew)); exact HO215.out) hb); have n1_ := Aside0.mk (Kd.R_below (by (with_reducible repeat (first | apply Kd.R_alloc | apply Kd.R_drewN | apply Kd.R_drew)); exact HO218.out) hb); have n2_ := Aside0.mk (Kd.S_below (by (with_reducible repeat (first | apply Kd.S_alloc | apply Kd.S_drewN | apply Kd.S_drew)); exact HO221.out) hb); have n3_ := Aside0.mk (Kd.S_below (by (with_reducible repeat (first | apply Kd.S_alloc | apply Kd.S_drewN | apply Kd.S_drew)); exact HO224.out) hb); have n4_ := Aside0.mk (blk_below (g := gb204) (o := .cells #[.int .i64 a0_0, .int .i64 a0_1, .int .i64 a0_2, .int .i64 a0_3, .bool a0_4, .int .i64 a0_5, .slice A0_6 l0_6.length c0_6, .slice A0_7 l0_7.length c0_7, .slice A0_8 l0_8.length c0_8] 26 (0, 0)) (by (with_reducible repeat (first | refine blk_drewN ?_ _ | refine blk_drew ?_ | refine blk_alloc ?_ _)); exact BK204.out) hb); have n5_ := Aside0.mk (blk_below (g := gb205) (o := .cells #[.int .i64 a1_0, .int .i64 a1_1, .int .i64 a1_2, .int .i64 a1_3, .int .i64 a1_4, .int .i64 a1_5, .int .i64 a1_6, .slice A1_7 l1_7.length c1_7] 28 (0, 0)) (by (with_reducible repeat (first | refine blk_drewN ?_ _ | refine blk_drew ?_ | refine blk_alloc ?_ _)); exact BK205.out) hb); have n6_ := Aside0.mk (below_step (by repeat (first | (with_reducible first | exact HB.out | apply below_alloc | apply pw_below_drewN | apply below_drew1 | refine below_set ?_ GE204.out | refine below_set ?_ GE205.out) | exact HB.out)) hb); have n7_ := Aside0.mk (hbox); have n8_ := Aside0.mk ((by rw [hg]; exact (below_size (by repeat (first | (with_reducible first | exact HB.out | apply below_alloc | apply pw_below_drewN | apply below_drew1 | refine below_set ?_ GE204.out | refine below_set ?_ GE205.out) | exact HB.out))) : w.heap.size ≤ gb226)); have n9_ := Aside0.mk ((by rw [hg]; exact (below_size (by repeat (first | (with_reducible first | exact HB.out | apply below_alloc | apply pw_below_drewN | apply below_drew1 | refine below_set ?_ GE204.out | refine below_set ?_ GE205.out) | exact HB.out))) : w.heap.size ≤ gb226)); have n10_ := Aside0.mk ((by rw [hg]; exact Nat.ne_of_lt (blk_lt (g := gb204) (o := .cells #[.int .i64 a0_0, .int .i64 a0_1, .int .i64 a0_2, .int .i64 a0_3, .bool a0_4, .int .i64 a0_5, .slice A0_6 l0_6.length c0_6, .slice A0_7 l0_7.length c0_7, .slice A0_8 l0_8.length c0_8] 26 (0, 0)) (by (with_reducible repeat (first | refine blk_drewN ?_ _ | refine blk_drew ?_ | refine blk_alloc ?_ _)); exact BK204.out)) : gb204 ≠ gb226)); have n11_ := Aside0.mk ((by rw [hg]; exact Nat.ne_of_gt (blk_lt (g := gb204) (o := .cells #[.int .i64 a0_0, .int .i64 a0_1, .int .i64 a0_2, .int .i64 a0_3, .bool a0_4, .int .i64 a0_5, .slice A0_6 l0_6.length c0_6, .slice A0_7 l0_7.length c0_7, .slice A0_8 l0_8.length c0_8] 26 (0, 0)) (by (with_reducible repeat (first | refine blk_drewN ?_ _ | refine blk_drew ?_ | refine blk_alloc ?_ _)); exact BK204.out)) : gb226 ≠ gb204)); have n12_ := Aside0.mk ((by rw [hg]; exact Nat.ne_of_lt (blk_lt (g := gb205) (o := .cells #[.int .i64 a1_0, .int .i64 a1_1, .int .i64 a1_2, .int .i64 a1_3, .int .i64 a1_4, .int .i64 a1_5, .int .i64 a1_6, .slice A1_7 l1_7.length c1_7] 28 (0, 0)) (by (with_reducible repeat (first | refine blk_drewN ?_ _ | refine blk_drew ?_ | refine blk_alloc ?_ _)); exact BK205.out)) : gb205 ≠ gb226)); have n13_ := Aside0.mk ((by rw [hg]; exact Nat.ne_of_gt (blk_lt (g := gb205) (o := .cells #[.int .i64 a1_0, .int .i64 a1_1, .int .i64 a1_2, .int .i64 a1_3, .int .i64 a1_4, .int .i64 a1_5, .int .i64 a1_6, .slice A1_7 l1_7.length c1_7] 28 (0, 0)) (by (with_reducible repeat (first | refine blk_drewN ?_ _ | refine blk_drew ?_ | refine blk_alloc ?_ _)); exact BK205.out)) : gb226 ≠ gb205)); clear HO215; clear HO218; clear HO221; clear HO224; clear BK204; clear BK205; clear HB; have HO215 := n0_; have HO218 := n1_; have HO221 := n2_; have HO224 := n3_; have BK204 := n4_; have BK205 := n5_; have HB := n6_; have BK226 := n7_; have GW226 := n8_; have GE226 := n9_; have NB204_226 := n10_; have NB226_204 := n11_; have NB205_226 := n12_; have NB226_205 := n13_; clear n0_ n1_ n2_ n3_ n4_ n5_ n6_ n7_ n8_ n9_ n10_ n11_ n12_ n13_; clear hb hbox hg; have hnb48 := NB226_204.out; have hnc48 := NB204_226.out; have hnb49 := NB226_205.out; have hnc49 := NB205_226.out; have hcz50_0 : w47.cell? ⟨gb226, 0, none⟩ = some (.int .i64 0) := (blk_cell BK226.out 0).trans rfl; have hcz50_1 : w47.cell? ⟨gb226, 1, none⟩ = some (.int .i64 0) := (blk_cell BK226.out 1).trans rfl; have hcz50_2 : w47.cell? ⟨gb226, 2, none⟩ = some (.int .i64 0) := (blk_cell BK226.out 2).trans rfl; have hcz50_3 : w47.cell? ⟨gb226, 3, none⟩ = some (.int .i64 0) := (blk_cell BK226.out 3).trans rfl; have hcz50_4 : w47.cell? ⟨gb226, 4, none⟩ = some (.bool false) := (blk_cell BK226.out 4).trans rfl; have hcz50_5 : w47.cell? ⟨gb226, 5, none⟩ = some (.int .i64 0) := (blk_cell BK226.out 5).trans rfl; have hcz50_6 : w47.cell? ⟨gb226, 6, none⟩ = some (.slice none 0 0) := (blk_cell BK226.out 6).trans rfl; have hcz50_7 : w47.cell? ⟨gb226, 7, none⟩ = some (.slice none 0 0) := (blk_cell BK226.out 7).trans rfl; have hcz50_8 : w47.cell? ⟨gb226, 8, none⟩ = some (.slice none 0 0) := (blk_cell BK226.out 8).trans rfl; have hfz50_0 := blk_frozen BK226.out 0; have hfz50_1 := blk_frozen BK226.out 1; have hfz50_2 := blk_frozen BK226.out 2; have hfz50_3 := blk_frozen BK226.out 3; have hfz50_4 := blk_frozen BK226.out 4; have hfz50_5 := blk_frozen BK226.out 5; have hfz50_6 := blk_frozen BK226.out 6; have hfz50_7 := blk_frozen BK226.out 7; have hfz50_8 := blk_frozen BK226.out 8; obtain ⟨Ao51, co51, eo51⟩ := Kd.R_slice HO215.out; subst eo51; obtain ⟨Ao52, co52, eo52⟩ := Kd.R_slice HO218.out; subst eo52; obtain ⟨Ao53, co53, eo53⟩ := Kd.S_slice HO221.out; subst eo53) | ((with_reducible refine gate_callee (f := 9) rfl ?_); refine goesL_ (some 27) rfl rfl Try.func9 (by kernel_rfl) rfl #[] rfl (by (try simp only [List.map_toArray, List.map_cons, List.map_nil]); first | done | rfl | (simp only [List.length_drop, List.length_take]; rfl)) ?_; (with_reducible refine (sextonlaw24_worked.calls  true _ A41.out).mono ?_); rintro e w54 ⟨rfl, hb⟩; refine ⟨_, rfl, ?_⟩; have n0_ := Aside0.mk (Kd.R_below (by (with_reducible repeat (first | apply Kd.R_alloc | apply Kd.R_drewN | apply Kd.R_drew)); exact (Kd.R_mono (Kd.R_far (p := ⟨gb226, 8, none⟩) (Kd.R_far (p := ⟨gb226, 7, none⟩) (Kd.R_far (p := ⟨gb226, 6, none⟩) (Kd.R_far (p := ⟨gb226, 5, none⟩) (Kd.R_far (p := ⟨gb226, 4, none⟩) (Kd.R_far (p := ⟨gb226, 3, none⟩) (Kd.R_far (p := ⟨gb226, 2, none⟩) (Kd.R_far (p := ⟨gb226, 1, none⟩) (Kd.R_far (p := ⟨gb226, 0, none⟩) (Kd.R_types HO215.out BK226.out (by decide)) (fun _ hk => hk.2) (.int .i64 t207)) (fun _ hk => hk.2) (.int .i64 t208)) (fun _ hk => hk.2) (.int .i64 t209)) (fun _ hk => hk.2) (.int .i64 t210)) (fun _ hk => hk.2) (.bool t211)) (fun _ hk => hk.2) (.int .i64 t212)) (fun _ hk => hk.2) (.slice Ao51 t213.length co51)) (fun _ hk => hk.2) (.slice Ao52 t216.length co52)) (fun _ hk => hk.2) (.slice Ao53 t219.length co53)) (fun _ h_ => h_.1))) hb); have n1_ := Aside0.mk (Kd.R_below (by (with_reducible repeat (first | apply Kd.R_alloc | apply Kd.R_drewN | apply Kd.R_drew)); exact (Kd.R_mono (Kd.R_far (p := ⟨gb226, 8, none⟩) (Kd.R_far (p := ⟨gb226, 7, none⟩) (Kd.R_far (p := ⟨gb226, 6, none⟩) (Kd.R_far (p := ⟨gb226, 5, none⟩) (Kd.R_far (p := ⟨gb226, 4, none⟩) (Kd.R_far (p := ⟨gb226, 3, none⟩) (Kd.R_far (p := ⟨gb226, 2, none⟩) (Kd.R_far (p := ⟨gb226, 1, none⟩) (Kd.R_far (p := ⟨gb226, 0, none⟩) (Kd.R_types HO218.out BK226.out (by decide)) (fun _ hk => hk.2) (.int .i64 t207)) (fun _ hk => hk.2) (.int .i64 t208)) (fun _ hk => hk.2) (.int .i64 t209)) (fun _ hk => hk.2) (.int .i64 t210)) (fun _ hk => hk.2) (.bool t211)) (fun _ hk => hk.2) (.int .i64 t212)) (fun _ hk => hk.2) (.slice Ao51 t213.length co51)) (fun _ hk => hk.2) (.slice Ao52 t216.length co52)) (fun _ hk => hk.2) (.slice Ao53 t219.length co53)) (fun _ h_ => h_.1))) hb); have n2_ := Aside0.mk (Kd.S_below (by (with_reducible repeat (first | apply Kd.S_alloc | apply Kd.S_drewN | apply Kd.S_drew)); exact (Kd.S_mono (Kd.S_far (p := ⟨gb226, 8, none⟩) (Kd.S_far (p := ⟨gb226, 7, none⟩) (Kd.S_far (p := ⟨gb226, 6, none⟩) (Kd.S_far (p := ⟨gb226, 5, none⟩) (Kd.S_far (p := ⟨gb226, 4, none⟩) (Kd.S_far (p := ⟨gb226, 3, none⟩) (Kd.S_far (p := ⟨gb226, 2, none⟩) (Kd.S_far (p := ⟨gb226, 1, none⟩) (Kd.S_far (p := ⟨gb226, 0, none⟩) (Kd.S_types HO221.out BK226.out (by decide)) (fun _ hk => hk.2) (.int .i64 t207)) (fun _ hk => hk.2) (.int .i64 t208)) (fun _ hk => hk.2) (.int .i64 t209)) (fun _ hk => hk.2) (.int .i64 t210)) (fun _ hk => hk.2) (.bool t211)) (fun _ hk => hk.2) (.int .i64 t212)) (fun _ hk => hk.2) (.slice Ao51 t213.length co51)) (fun _ hk => hk.2) (.slice Ao52 t216.length co52)) (fun _ hk => hk.2) (.slice Ao53 t219.length co53)) (fun _ h_ => h_.1))) hb); have n3_ := Aside0.mk (Kd.S_below (by (with_reducible repeat (first | apply Kd.S_alloc | apply Kd.S_drewN | apply Kd.S_drew)); exact (Kd.S_mono (Kd.S_far (p := ⟨gb226, 8, none⟩) (Kd.S_far (p := ⟨gb226, 7, none⟩) (Kd.S_far (p := ⟨gb226, 6, none⟩) (Kd.S_far (p := ⟨gb226, 5, none⟩) (Kd.S_far (p := ⟨gb226, 4, none⟩) (Kd.S_far (p := ⟨gb226, 3, none⟩) (Kd.S_far (p := ⟨gb226, 2, none⟩) (Kd.S_far (p := ⟨gb226, 1, none⟩) (Kd.S_far (p := ⟨gb226, 0, none⟩) (Kd.S_types HO224.out BK226.out (by decide)) (fun _ hk => hk.2) (.int .i64 t207)) (fun _ hk => hk.2) (.int .i64 t208)) (fun _ hk => hk.2) (.int .i64 t209)) (fun _ hk => hk.2) (.int .i64 t210)) (fun _ hk => hk.2) (.bool t211)) (fun _ hk => hk.2) (.int .i64 t212)) (fun _ hk => hk.2) (.slice Ao51 t213.length co51)) (fun _ hk => hk.2) (.slice Ao52 t216.length co52)) (fun _ hk => hk.2) (.slice Ao53 t219.length co53)) (fun _ h_ => h_.1))) hb); have n4_ := Aside0.mk (blk_below (g := gb204) (o := .cells #[.int .i64 a0_0, .int .i64 a0_1, .int .i64 a0_2, .int .i64 a0_3, .bool a0_4, .int .i64 a0_5, .slice A0_6 l0_6.length c0_6, .slice A0_7 l0_7.length c0_7, .slice A0_8 l0_8.length c0_8] 26 (0, 0)) (by (with_reducible repeat (first | refine blk_drewN ?_ _ | refine blk_drew ?_ | refine blk_alloc ?_ _)); refine blk_far ?_ NB204_226.out _; (with_reducible repeat (first | refine blk_drewN ?_ _ | refine blk_drew ?_ | refine blk_alloc ?_ _)); refine blk_far ?_ NB204_226.out _; (with_reducible repeat (first | refine blk_drewN ?_ _ | refine blk_drew ?_ | refine blk_alloc ?_ _)); refine blk_far ?_ NB204_226.out _; (with_reducible repeat (first | refine blk_drewN ?_ _ | refine blk_drew ?_ | refine blk_alloc ?_ _)); refine blk_far ?_ NB204_226.out _; (with_reducible repeat (first | refine blk_drewN ?_ _ | refine blk_drew ?_ | refine blk_alloc ?_ _)); refine blk_far ?_ NB204_226.out _; (with_reducible repeat (first | refine blk_drewN ?_ _ | refine blk_drew ?_ | refine blk_alloc ?_ _)); refine blk_far ?_ NB204_226.out _; (with_reducible repeat (first | refine blk_drewN ?_ _ | refine blk_drew ?_ | refine blk_alloc ?_ _)); refine blk_far ?_ NB204_226.out _; (with_reducible repeat (first | refine blk_drewN ?_ _ | refine blk_drew ?_ | refine blk_alloc ?_ _)); refine blk_far ?_ NB204_226.out _; (with_reducible repeat (first | refine blk_drewN ?_ _ | refine blk_drew ?_ | refine blk_alloc ?_ _)); refine blk_far ?_ NB204_226.out _; (with_reducible repeat (first | refine blk_drewN ?_ _ | refine blk_drew ?_ | refine blk_alloc ?_ _)); exact BK204.out) hb); have n5_ := Aside0.mk (blk_below (g := gb205) (o := .cells #[.int .i64 a1_0, .int .i64 a1_1, .int .i64 a1_2, .int .i64 a1_3, .int .i64 a1_4, .int .i64 a1_5, .int .i64 a1_6, .slice A1_7 l1_7.length c1_7] 28 (0, 0)) (by (with_reducible repeat (first | refine blk_drewN ?_ _ | refine blk_drew ?_ | refine blk_alloc ?_ _)); refine blk_far ?_ NB205_226.out _; (with_reducible repeat (first | refine blk_drewN ?_ _ | refine blk_drew ?_ | refine blk_alloc ?_ _)); refine blk_far ?_ NB205_226.out _; (with_reducible repeat (first | refine blk_drewN ?_ _ | refine blk_drew ?_ | refine blk_alloc ?_ _)); refine blk_far ?_ NB205_226.out _; (with_reducible repeat (first | refine blk_drewN ?_ _ | refine blk_drew ?_ | refine blk_alloc ?_ _)); refine blk_far ?_ NB205_226.out _; (with_reducible repeat (first | refine blk_drewN ?_ _ | refine blk_drew ?_ | refine blk_alloc ?_ _)); refine blk_far ?_ NB205_226.out _; (with_reducible repeat (first | refine blk_drewN ?_ _ | refine blk_drew ?_ | refine blk_alloc ?_ _)); refine blk_far ?_ NB205_226.out _; (with_reducible repeat (first | refine blk_drewN ?_ _ | refine blk_drew ?_ | refine blk_alloc ?_ _)); refine blk_far ?_ NB205_226.out _; (with_reducible repeat (first | refine blk_drewN ?_ _ | refine blk_drew ?_ | refine blk_alloc ?_ _)); refine blk_far ?_ NB205_226.out _; (with_reducible repeat (first | refine blk_drewN ?_ _ | refine blk_drew ?_ | refine blk_alloc ?_ _)); refine blk_far ?_ NB205_226.out _; (with_reducible repeat (first | refine blk_drewN ?_ _ | refine blk_drew ?_ | refine blk_alloc ?_ _)); exact BK205.out) hb); have n6_ := Aside0.mk (blk_below (g := gb226) (o := .cells #[.int .i64 t207, .int .i64 t208, .int .i64 t209, .int .i64 t210, .bool t211, .int .i64 t212, .slice Ao51 t213.length co51, .slice Ao52 t216.length co52, .slice Ao53 t219.length co53] 26 (0, 0)) (by (with_reducible repeat (first | refine blk_drewN ?_ _ | refine blk_drew ?_ | refine blk_alloc ?_ _)); refine blk_put (cs := #[.int .i64 t207, .int .i64 t208, .int .i64 t209, .int .i64 t210, .bool t211, .int .i64 t212, .slice Ao51 t213.length co51, .slice Ao52 t216.length co52, .slice none 0 0]) ?_ 8 _ rfl; (with_reducible repeat (first | refine blk_drewN ?_ _ | refine blk_drew ?_ | refine blk_alloc ?_ _)); refine blk_put (cs := #[.int .i64 t207, .int .i64 t208, .int .i64 t209, .int .i64 t210, .bool t211, .int .i64 t212, .slice Ao51 t213.length co51, .slice none 0 0, .slice none 0 0]) ?_ 7 _ rfl; (with_reducible repeat (first | refine blk_drewN ?_ _ | refine blk_drew ?_ | refine blk_alloc ?_ _)); refine blk_put (cs := #[.int .i64 t207, .int .i64 t208, .int .i64 t209, .int .i64 t210, .bool t211, .int .i64 t212, .slice none 0 0, .slice none 0 0, .slice none 0 0]) ?_ 6 _ rfl; (with_reducible repeat (first | refine blk_drewN ?_ _ | refine blk_drew ?_ | refine blk_alloc ?_ _)); refine blk_put (cs := #[.int .i64 t207, .int .i64 t208, .int .i64 t209, .int .i64 t210, .bool t211, .int .i64 0, .slice none 0 0, .slice none 0 0, .slice none 0 0]) ?_ 5 _ rfl; (with_reducible repeat (first | refine blk_drewN ?_ _ | refine blk_drew ?_ | refine blk_alloc ?_ _)); refine blk_put (cs := #[.int .i64 t207, .int .i64 t208, .int .i64 t209, .int .i64 t210, .bool false, .int .i64 0, .slice none 0 0, .slice none 0 0, .slice none 0 0]) ?_ 4 _ rfl; (with_reducible repeat (first | refine blk_drewN ?_ _ | refine blk_drew ?_ | refine blk_alloc ?_ _)); refine blk_put (cs := #[.int .i64 t207, .int .i64 t208, .int .i64 t209, .int .i64 0, .bool false, .int .i64 0, .slice none 0 0, .slice none 0 0, .slice none 0 0]) ?_ 3 _ rfl; (with_reducible repeat (first | refine blk_drewN ?_ _ | refine blk_drew ?_ | refine blk_alloc ?_ _)); refine blk_put (cs := #[.int .i64 t207, .int .i64 t208, .int .i64 0, .int .i64 0, .bool false, .int .i64 0, .slice none 0 0, .slice none 0 0, .slice none 0 0]) ?_ 2 _ rfl; (with_reducible repeat (first | refine blk_drewN ?_ _ | refine blk_drew ?_ | refine blk_alloc ?_ _)); refine blk_put (cs := #[.int .i64 t207, .int .i64 0, .int .i64 0, .int .i64 0, .bool false, .int .i64 0, .slice none 0 0, .slice none 0 0, .slice none 0 0]) ?_ 1 _ rfl; (with_reducible repeat (first | refine blk_drewN ?_ _ | refine blk_drew ?_ | refine blk_alloc ?_ _)); refine blk_put (cs := #[.int .i64 0, .int .i64 0, .int .i64 0, .int .i64 0, .bool false, .int .i64 0, .slice none 0 0, .slice none 0 0, .slice none 0 0]) ?_ 0 _ rfl; (with_reducible repeat (first | refine blk_drewN ?_ _ | refine blk_drew ?_ | refine blk_alloc ?_ _)); exact BK226.out) hb); have n7_ := Aside0.mk (below_step (by repeat (first | (with_reducible first | exact HB.out | apply below_alloc | apply pw_below_drewN | apply below_drew1 | refine below_set ?_ GE204.out | refine below_set ?_ GE205.out | refine below_set ?_ GE226.out) | exact HB.out)) hb); clear HO215; clear HO218; clear HO221; clear HO224; clear BK204; clear BK205; clear BK226; clear HB; have HO215 := n0_; have HO218 := n1_; have HO221 := n2_; have HO224 := n3_; have BK204 := n4_; have BK205 := n5_; have BK226 := n6_; have HB := n7_; clear n0_ n1_ n2_ n3_ n4_ n5_ n6_ n7_; (try clear hb); (try clear hb2); (try clear hk); (try clear hi); obtain ⟨Ao55, co55, eo55⟩ := Kd.S_slice HO224.out; subst eo55))
            go_ret
            exact ⟨by first | rfl | (simp [errW_none, errW_some] <;> rfl) | (simp [*, errW_none, errW_some] <;> rfl), by repeat (first | (with_reducible first | exact HB.out | apply below_alloc | apply pw_below_drewN | apply below_drew1 | refine below_set ?_ GE204.out | refine below_set ?_ GE205.out | refine below_set ?_ GE226.out) | exact HB.out)⟩
          · replace c42 := Bool.eq_false_iff.mpr c42
            subst c42
            have H1 : (some false) = some r := by rw [if_neg (show ¬ (false = true) by decide)] at H; exact H
            clear H
            have H := H1
            clear H1
            exact absurd (H.trans (congrArg some HT.out)) (by simp)
end Go.Proofs.Ytfpfpckocemmdaa.P
end
section
set_option linter.unusedVariables false
set_option linter.unusedSimpArgs false
namespace Go.Proofs.YtfpfpckocemmdaaW.PrintMore
open Go.RowKit Go.Proofs.YtfpfpckocemmdaaW.PrintWords Go.Proofs.YtfpfpckocemmdaaW.PrintLast Go.ChangeShapes Go.WideShapes Go.ChangeAt
variable {P : Program} {α : Type}
def Opens (P : Program) (t : TypeId) (d : Kd α) (B : α → Prop) : Prop :=
  ∀ {H : Type} (enc : TypeId × Value → H) (w : World) (base : Nat) (spare : Nat → Bool) (held : Bool) (fuel : Nat) (cs : List Value) (x : DataW H × List MemPlace),
    DataW.trod enc P w base spare held fuel t cs = some x → ∃ y : α, d.K w y cs ∧ B y
theorem Opens.int {t : TypeId} {k : IntKind} (ht : P.underlying t = some (.int k)) : Opens P t (Kd.int k) (fun y => (Lit.int k y).wf = true) := by
  intro H enc w base spare held fuel cs x h
  obtain ⟨n, rfl, _, hw⟩ := DataW.trod_int ht h
  exact ⟨n, rfl, hw⟩
theorem Opens.bool {t : TypeId} (ht : P.underlying t = some .bool) : Opens P t Kd.bool (fun _ => True) := by
  intro H enc w base spare held fuel cs x h
  obtain ⟨n, rfl, _⟩ := DataW.trod_bool ht h
  exact ⟨n, rfl, trivial⟩
theorem Opens.string {t : TypeId} (ht : P.underlying t = some .string) : Opens P t Kd.string (fun s => s.size ≤ maxLen) := by
  intro H enc w base spare held fuel cs x h
  obtain ⟨n, rfl, _, hs⟩ := DataW.trod_string ht h
  exact ⟨n, rfl, hs⟩
theorem Opens.slice {t e : TypeId} {d : Kd α} {B : α → Prop} (hd : Opens P e d B) (ht : P.underlying t = some (.slice e)) (hc : P.cellsOf e = d.sz) : Opens P t (Kd.slice e d) (fun xs => ∀ y ∈ xs, B y) := by
  intro H enc w base spare held fuel cs x h
  rcases Go.Deep.open_slice ht h with ⟨rfl, _⟩ | ⟨a, len, cap, m, n, D, Pl, rfl, hb, hl, hm, hmm, _, hx⟩
  · exact ⟨[], ⟨none, 0, rfl, Nat.le_refl _, Kd.C_nil d w⟩, by simp⟩
  · have hlm : len ≤ m := by rw [hmm]; split <;> omega
    have hy : ∀ i : Fin len, ∃ y : α, ∃ cs', w.cells? base (a.add (i.1 * P.cellsOf e)) (P.cellsOf e) = some cs' ∧ d.K w y cs' ∧ B y := fun i => by
      obtain ⟨cs', h1, h2⟩ := hx i.1 (by omega)
      obtain ⟨y, hK, hB⟩ := hd enc w base spare held n cs' _ h2
      exact ⟨y, cs', h1, hK, hB⟩
    refine ⟨List.ofFn fun i => Classical.choose (hy i), ⟨some a, cap, by simp, by simpa using hl, by simp, by simp only [List.length_ofFn]; unfold maxLen at hm; omega, fun _ => ⟨a, rfl, fun j p hj => ?_⟩⟩, fun y hy' => ?_⟩
    · obtain ⟨hjl, hp⟩ := List.getElem?_eq_some_iff.1 hj
      have hjl' : j < len := by simpa using hjl
      obtain ⟨cs', h1, hK, _⟩ := Classical.choose_spec (hy ⟨j, hjl'⟩)
      have hp' : Classical.choose (hy ⟨j, hjl'⟩) = p := by rw [← hp]; simp
      rw [hp'] at hK
      obtain ⟨_, hlen, hcell⟩ := World.cells?_some h1
      refine ⟨cs', by rw [hlen, hc], hK, fun i u hu => ?_⟩
      have hi : i < cs'.length := (List.getElem?_eq_some_iff.1 hu).1
      have h3 := hcell i (by omega)
      rw [Go.Deep.add_add, hc] at h3
      rw [h3, hu]
    · obtain ⟨i, hi⟩ := (List.mem_ofFn).1 hy'
      obtain ⟨cs', h1, _, hB⟩ := Classical.choose_spec (hy i)
      rw [← hi]
      exact hB
theorem Opens.sized {t e : TypeId} {d : Kd α} {B : List α → Prop} (hd : Opens P t (Kd.slice e d) B) : Opens P t (Kd.slice e d) (fun xs => xs.length ≤ 9223372036854775807 ∧ B xs) := by
  intro H enc w base spare held fuel cs x h
  obtain ⟨xs, hK, hB⟩ := hd enc w base spare held fuel cs x h
  obtain ⟨A, c, hcs, hl, hC⟩ := hK
  exact ⟨xs, ⟨A, c, hcs, hl, hC⟩, hC.2.1, hB⟩
theorem Opens.arg_struct {H : Type} {enc : TypeId × Value → H} {t : TypeId} {fs : Array Field} {d : Kd α} {B : α → Prop} (hd : Opens P t d B) (ht : P.underlying t = some (.struct fs)) {w : World} {base b0 : Nat} {r : Reach} {spare : Nat → Bool} {held : Bool} {v : Value} {y : DataW H} {ps : List MemPlace}
    (hv : Value.okWide P w r b0 t v) (h : DataW.Trod enc P w base spare held t v y ps) : ∃ cs x, v = .agg (List.toArray cs) ∧ d.K w x cs ∧ B x := by
  obtain ⟨cs, rfl, hsz⟩ := okWide_struct ht hv
  obtain ⟨fuel, hf⟩ := h
  obtain ⟨x, hK, hB⟩ := hd enc w base spare held fuel _ _ hf
  refine ⟨cs.toList, x, by simp, ?_, hB⟩
  simpa [Value.cells] using hK
theorem x_field {H : Type} {enc : TypeId × Value → H} {w : World} {base : Nat} {spare : Nat → Bool} {held : Bool} {n : Nat} {fs : Array Field} {xs : List (DataW H × List MemPlace)} {cs : List Value} (hx : xs.length = fs.size)
    (hf : ∀ (i : Nat) (f : Field), fs[i]? = some f → DataW.trod enc P w base spare held n f.type ((cs.drop f.offset).take (P.cellsOf f.type)) = xs[i]?) (i : Nat) (f : Field) (h : fs[i]? = some f) :
    ∃ x, DataW.trod enc P w base spare held n f.type ((cs.drop f.offset).take (P.cellsOf f.type)) = some x := by
  have hi : i < xs.length := by
    rw [hx]
    rcases Nat.lt_or_ge i fs.size with h' | h'
    · exact h'
    · rw [Array.getElem?_eq_none h'] at h; cases h
  exact ⟨xs[i], (hf i f h).trans (List.getElem?_eq_getElem hi)⟩
theorem Opens.field {H : Type} {t : TypeId} {d : Kd α} {B : α → Prop} (hd : Opens P t d B) {enc : TypeId × Value → H} {w : World} {base : Nat} {spare : Nat → Bool} {held : Bool} {n : Nat} {cs : List Value} {x : DataW H × List MemPlace} (h : DataW.trod enc P w base spare held n t cs = some x) : ∃ y, d.K w y cs ∧ B y := hd enc w base spare held n cs x h
end Go.Proofs.YtfpfpckocemmdaaW.PrintMore
end
