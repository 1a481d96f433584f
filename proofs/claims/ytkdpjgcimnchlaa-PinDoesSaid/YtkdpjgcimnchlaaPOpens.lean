-- printed by a program of this session (wip/tools/xprint.py) over the translation; not trusted: Lean checks it
import Derived.Test.YtkdpjgcimnchlaaXO
import Derived.Test.YtkdpjgcimnchlaaPx0
namespace Go.Proofs.Ytkdpjgcimnchlaa.P
open Go.RowKit Go.Proofs.YtkdpjgcimnchlaaW.PrintWords Go.Proofs.YtkdpjgcimnchlaaW.PrintLast Go.Proofs.YtkdpjgcimnchlaaW.PrintMore
attribute [local go_sem] max2_int min2_int max_two min_two max_three min_three max_four min_four   -- for this text's walks alone
set_option linter.unusedVariables false
set_option linter.unusedSimpArgs false

theorem opens3 : Opens Try.prog 3 (Kd.int .i64) (fun y => (Lit.int .i64 y).wf = true) := Opens.int Try.underlying3
def B24 (x : S24) : Prop := (Lit.int .i64 x.f0).wf = true ∧ (Lit.int .i64 x.f1).wf = true
theorem opens24 : Opens Try.prog 24 k24 B24 := by
  intro H enc w base spare held fuel cs x h
  obtain ⟨xs, n, _, _, hl, hxs, hf⟩ := DataW.trod_struct Try.underlying24 h
  have hl : cs.length = 2 := hl
  obtain ⟨_, h0⟩ := x_field hxs hf 0 _ rfl
  obtain ⟨_, h1⟩ := x_field hxs hf 1 _ rfl
  obtain ⟨y0, k0, b0⟩ := opens3.field h0
  obtain ⟨y1, k1, b1⟩ := opens3.field h1
  refine ⟨⟨y0, y1⟩, ⟨_, _, ?_, k0, k1⟩, b0, b1⟩
  show cs = (cs.drop 0).take 1 ++ ((cs.drop 1).take 1)
  match cs, hl with
  | [c0, c1], _ => rfl
theorem opens22 : Opens Try.prog 22 (Kd.slice 24 k24) (fun y => (y.length ≤ 9223372036854775807 ∧ ∀ y1 ∈ y, B24 y1)) := Opens.sized (Opens.slice opens24 Try.underlying22 rfl)
def B40 (x : S40) : Prop := (Lit.int .i64 x.f0).wf = true ∧ B24 x.f1
theorem opens40 : Opens Try.prog 40 k40 B40 := by
  intro H enc w base spare held fuel cs x h
  obtain ⟨xs, n, _, _, hl, hxs, hf⟩ := DataW.trod_struct Try.underlying40 h
  have hl : cs.length = 3 := hl
  obtain ⟨_, h0⟩ := x_field hxs hf 0 _ rfl
  obtain ⟨_, h1⟩ := x_field hxs hf 1 _ rfl
  obtain ⟨y0, k0, b0⟩ := opens3.field h0
  obtain ⟨y1, k1, b1⟩ := opens24.field h1
  refine ⟨⟨y0, y1⟩, ⟨_, _, ?_, k0, k1⟩, b0, b1⟩
  show cs = (cs.drop 0).take 1 ++ ((cs.drop 1).take 2)
  match cs, hl with
  | [c0, c1, c2], _ => rfl
theorem opens38 : Opens Try.prog 38 (Kd.slice 40 k40) (fun y => (y.length ≤ 9223372036854775807 ∧ ∀ y1 ∈ y, B40 y1)) := Opens.sized (Opens.slice opens40 Try.underlying38 rfl)
end Go.Proofs.Ytkdpjgcimnchlaa.P
