-- printed by a program of this session (wip/tools/xprint.py) over the translation; not trusted: Lean checks it
import Derived.Test.YtgphefohdbgokaaXO
import Derived.Test.YtgphefohdbgokaaPx0
namespace Go.Proofs.Ytgphefohdbgokaa.P
open Go.RowKit Go.Proofs.YtgphefohdbgokaaW.PrintWords Go.Proofs.YtgphefohdbgokaaW.PrintLast Go.Proofs.YtgphefohdbgokaaW.PrintMore
attribute [local go_sem] max2_int min2_int max_two min_two max_three min_three max_four min_four   -- for this text's walks alone
set_option linter.unusedVariables false
set_option linter.unusedSimpArgs false

theorem opens9 : Opens Try.prog 9 Kd.string (fun s => s.size ≤ maxLen) := Opens.string Try.underlying9
theorem opens22 : Opens Try.prog 22 (Kd.slice 9 Kd.string) (fun y => (y.length ≤ 9223372036854775807 ∧ ∀ y1 ∈ y, y1.size ≤ maxLen)) := Opens.sized (Opens.slice opens9 Try.underlying22 rfl)
theorem opens3 : Opens Try.prog 3 (Kd.int .i64) (fun y => (Lit.int .i64 y).wf = true) := Opens.int Try.underlying3
def B29 (x : S29) : Prop := (Lit.int .i64 x.f0).wf = true ∧ (Lit.int .i64 x.f1).wf = true ∧ (Lit.int .i64 x.f2).wf = true ∧ (x.f3.length ≤ 9223372036854775807 ∧ ∀ y0 ∈ x.f3, y0.size ≤ maxLen)
theorem opens29 : Opens Try.prog 29 k29 B29 := by
  intro H enc w base spare held fuel cs x h
  obtain ⟨xs, n, _, _, hl, hxs, hf⟩ := DataW.trod_struct Try.underlying29 h
  have hl : cs.length = 4 := hl
  obtain ⟨_, h0⟩ := x_field hxs hf 0 _ rfl
  obtain ⟨_, h1⟩ := x_field hxs hf 1 _ rfl
  obtain ⟨_, h2⟩ := x_field hxs hf 2 _ rfl
  obtain ⟨_, h3⟩ := x_field hxs hf 3 _ rfl
  obtain ⟨y0, k0, b0⟩ := opens3.field h0
  obtain ⟨y1, k1, b1⟩ := opens3.field h1
  obtain ⟨y2, k2, b2⟩ := opens3.field h2
  obtain ⟨y3, k3, b3⟩ := opens22.field h3
  refine ⟨⟨y0, y1, y2, y3⟩, ⟨_, _, ?_, k0, ⟨_, _, rfl, k1, ⟨_, _, rfl, k2, k3⟩⟩⟩, b0, b1, b2, b3⟩
  show cs = (cs.drop 0).take 1 ++ ((cs.drop 1).take 1 ++ ((cs.drop 2).take 1 ++ ((cs.drop 3).take 1)))
  match cs, hl with
  | [c0, c1, c2, c3], _ => rfl
theorem opens26 : Opens Try.prog 26 (Kd.slice 29 k29) (fun y => (y.length ≤ 9223372036854775807 ∧ ∀ y1 ∈ y, B29 y1)) := Opens.sized (Opens.slice opens29 Try.underlying26 rfl)
theorem opens33 : Opens Try.prog 33 (Kd.slice 3 (Kd.int .i64)) (fun y => (y.length ≤ 9223372036854775807 ∧ ∀ y1 ∈ y, (Lit.int .i64 y1).wf = true)) := Opens.sized (Opens.slice opens3 Try.underlying33 rfl)
end Go.Proofs.Ytgphefohdbgokaa.P
