/- Part 10 of the walk. -/
import Derived.Test.YtfpfpckocemmdaaCAgain09
section
namespace Go.Proofs.Ytfpfpckocemmdaa.P
open Go.RowKit Go.Proofs.YtfpfpckocemmdaaW.PrintWords Go.Proofs.YtfpfpckocemmdaaW.PrintLast Go.Proofs.YtfpfpckocemmdaaW.PrintMore Go.Proofs.Ytfpfpckocemmdaa.Spec
set_option linter.unusedVariables false
set_option linter.unusedSimpArgs false
theorem Right.votes60 {u : Nod} (h : Right u) : ∀ v, v ∈ u.votes → v.f3.length ≤ 60 := fun v hv => (loggedB_len (votesB_ok h.votes v hv).2.2.2.2).1
theorem same_alike {u v : Nod} (h : Right u) (e : Alike9 u v) (K : Nat) (hK : 300 < K) : sextonref24_Same.f K u.id u.n u.view u.last u.works u.commit u.log u.acks u.votes v.id v.n v.view v.last v.works v.commit v.log v.acks v.votes = some true := by
  have e : ({ u with told := [] } : Nod) = { v with told := [] } := e
  injection e with e0 e1 e2 e3 e4 e5 e6 e7 e8
  rw [← e0, ← e1, ← e2, ← e3, ← e4, ← e5, ← e6, ← e7, ← e8]
  have h7 := h.n7
  exact node_self u.id u.n u.view u.last u.works u.commit u.log u.acks u.votes 100 (by omega) (by have := h.len.1; omega) (by have := h.acks; omega) (by have := h.count; omega) (fun v hv => by have := h.votes60 v hv; omega) K (by omega)
theorem same_zero (K : Nat) (hK : 300 < K) : sextonref24_Same.f K zeroNod.id zeroNod.n zeroNod.view zeroNod.last zeroNod.works zeroNod.commit zeroNod.log zeroNod.acks zeroNod.votes zeroNod.id zeroNod.n zeroNod.view zeroNod.last zeroNod.works zeroNod.commit zeroNod.log zeroNod.acks zeroNod.votes = some true :=
  node_self 0 0 0 0 false 0 [] [] [] 100 (by omega) (by decide) (by decide) (by decide) (fun v hv => by cases hv) K (by omega)
theorem zero_not : ¬ isB zeroNod = true := by decide
theorem restart_ok {x : Nod} (h : Right x) : restartOf x = (x.opened.restart, 0) := if_pos (is_of h)
theorem restart_bad {x : Nod} (h : ¬ isB x = true) : restartOf x = (zeroNod, 1) := if_neg h
theorem handle_ok {x : Nod} {m : S28} (h : Right x) (hf : For x m) : handleOf x m = (stepOf x m, 0) := if_pos ⟨is_of h, (for_iff x m).2 hf⟩
theorem handle_bad {x : Nod} {m : S28} (h : ¬ (isB x = true ∧ okMsg x m = true)) : handleOf x m = (zeroNod, 1) := if_neg h
theorem restart_facts {x : Nod} (h : Right x) : ∃ a : Nod, restartOf x = (a, 0) ∧ restartOf a = (a, 0) ∧ Right a ∧ a.id = x.id ∧ a.n = x.n ∧ a.view = x.view ∧ a.last = x.last ∧ a.works = x.works ∧ a.log = x.log ∧ x.commit ≤ a.commit := by
  have ho := h.opened
  have hx : Right x.opened := by rw [ho]; exact h.told _
  obtain ⟨k1, k2, k3, k4, k5, k6, k7, k8, k9⟩ := restart_steps hx (by rw [ho])
  have e2 : x.opened.restart.opened = x.opened.restart := by
    rw [k1.opened]
    have : ({ x.opened.restart with told := x.opened.restart.told } : Nod) = x.opened.restart := rfl
    rw [k2] at this
    exact this
  refine ⟨x.opened.restart, restart_ok h, ?_, k1, ?_, ?_, ?_, ?_, ?_, ?_, ?_⟩
  · rw [restart_ok k1, e2, restart_twice hx]
  · rw [k3, ho]
  · rw [k4, ho]
  · rw [k5, ho]
  · rw [k6, ho]
  · rw [k7, ho]
  · rw [k8, ho]
  · have : x.opened.commit = x.commit := by rw [ho]
    rw [← this]; exact k9
theorem again_law (x0 : S26) (m : S28) (b0 : B26 x0) (b1 : B28 m) (A6 A7 A8 A : Option Addr) (c6 c7 c8 c : Nat) (w : World) (h6 : Kd.C Kd.string w A6 x0.f6.length x0.f6) (l6 : x0.f6.length ≤ c6) (h7 : Kd.C (Kd.int .i64) w A7 x0.f7.length x0.f7) (l7 : x0.f7.length ≤ c7) (h8 : Kd.C k66 w A8 x0.f8.length x0.f8) (l8 : x0.f8.length ≤ c8) (hm : Kd.C Kd.string w A m.f7.length m.f7) (lm : m.f7.length ≤ c) :
    Calls Try.prog 6 #[.agg #[.int .i64 x0.f0, .int .i64 x0.f1, .int .i64 x0.f2, .int .i64 x0.f3, .bool x0.f4, .int .i64 x0.f5, .slice A6 x0.f6.length c6, .slice A7 x0.f7.length c7, .slice A8 x0.f8.length c8], .agg #[.int .i64 m.f0, .int .i64 m.f1, .int .i64 m.f2, .int .i64 m.f3, .int .i64 m.f4, .int .i64 m.f5, .int .i64 m.f6, .slice A m.f7.length c]] w fun e w' => e = .returned (.bool true) ∧ Below w.heap.size w w' := by
  obtain ⟨x0, x1, x2, x3, x4, x5, x6, x7, x8⟩ := x0
  obtain ⟨-, -, -, -, -, -, g6, g7, g8⟩ := b0
  simp only at g6 g7 g8 h6 l6 h7 l7 h8 l8
  obtain ⟨K, hK⟩ : ∃ K : Nat, 9223372036854777000 < K := ⟨_, Nat.lt_succ_self _⟩
  have hfar := far_of x0 x1 x2 x3 x4 x5 x6 x7 x8 m.f0 m.f1 m.f2 m.f3 m.f4 m.f5 m.f6 m.f7 ⟨#[]⟩ 9223372036854775807 (Nat.le_refl _) g6.1 g8.1 (fun v hv => (g8.2 v hv).2.2.2.1) K (by omega)
  cases hf : farB x6 x7 x8 m.f7 ⟨#[]⟩ with
  | true =>
    rw [hf] at hfar
    exact again_far ⟨x0, x1, x2, x3, x4, x5, x6, x7, x8, []⟩ m A6 A7 A8 A c6 c7 c8 c w h6 l6 h7 l7 h8 l8 hm lm K hfar
  | false =>
    rw [hf] at hfar
    have hfit := (far_not hf).fits (fun v hv => (g8.2 v hv).1)
    have harg : Arg w ⟨x0, x1, x2, x3, x4, x5, x6, x7, x8, []⟩ A6 A7 A8 c6 c7 c8 := arg_of h6 l6 h7 l7 h8 l8 hfit
    by_cases hR : isB ⟨x0, x1, x2, x3, x4, x5, x6, x7, x8, []⟩ = true
    · have hr := right_of hR
      obtain ⟨a, ha1, ha2, hra, -⟩ := restart_facts hr
      by_cases hok : okMsg ⟨x0, x1, x2, x3, x4, x5, x6, x7, x8, []⟩ m = true
      · have hfr := (for_iff _ _).1 hok
        have hst := (step_steps hr m hfr).1.fine
        have hfr2 : For (stepOf ⟨x0, x1, x2, x3, x4, x5, x6, x7, x8, []⟩ m) m := hfr.same hst.id hst.n
        have hst2 := (step_steps hst.right m hfr2).1.fine
        exact again_walk ⟨x0, x1, x2, x3, x4, x5, x6, x7, x8, []⟩ a a _ _ 0 0 0 0 m A6 A7 A8 A c6 c7 c8 c w harg hm lm K hfar ha1 ha2 (handle_ok hr hfr) (handle_ok hst.right hfr2) hra.fits hra.fits hst.right.fits hst2.right.fits (same_alike hra (Alike9.refl a) K (by omega)) (same_alike hst.right (step_twice hr m hfr) K (by omega)) (.inr ⟨rfl, rfl⟩) (.inr ⟨rfl, rfl⟩)
      · exact again_walk ⟨x0, x1, x2, x3, x4, x5, x6, x7, x8, []⟩ a a zeroNod zeroNod 0 0 1 1 m A6 A7 A8 A c6 c7 c8 c w harg hm lm K hfar ha1 ha2 (handle_bad (fun h => hok h.2)) (handle_bad (fun h => zero_not h.1)) hra.fits hra.fits fits_zero fits_zero (same_alike hra (Alike9.refl a) K (by omega)) (same_zero K (by omega)) (.inr ⟨rfl, rfl⟩) (.inl rfl)
    · exact again_walk ⟨x0, x1, x2, x3, x4, x5, x6, x7, x8, []⟩ zeroNod zeroNod zeroNod zeroNod 1 1 1 1 m A6 A7 A8 A c6 c7 c8 c w harg hm lm K hfar (restart_bad hR) (restart_bad zero_not) (handle_bad (fun h => hR h.1)) (handle_bad (fun h => zero_not h.1)) fits_zero fits_zero fits_zero fits_zero (same_zero K (by omega)) (same_zero K (by omega)) (.inl rfl) (.inl rfl)
end Go.Proofs.Ytfpfpckocemmdaa.P
end
