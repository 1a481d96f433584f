-- printed by a program of this session (wip/tools/xprint.py) over the translation; not trusted: Lean checks it
import Derived.Test.YtbohgnecphhdmaaXO
import Derived.Test.YtbohgnecphhdmaaPx0
namespace Go.Proofs.Ytbohgnecphhdmaa.P
open Go.RowKit Go.Proofs.YtbohgnecphhdmaaW.PrintWords Go.Proofs.YtbohgnecphhdmaaW.PrintLast Go.Proofs.YtbohgnecphhdmaaW.PrintMore
attribute [local go_sem] max2_int min2_int max_two min_two max_three min_three max_four min_four   -- for this text's walks alone
set_option linter.unusedVariables false
set_option linter.unusedSimpArgs false

theorem opens3 : Opens Try.prog 3 (Kd.int .i64) (fun y => (Lit.int .i64 y).wf = true) := Opens.int Try.underlying3
theorem opens23 : Opens Try.prog 23 (Kd.int .i64) (fun y => (Lit.int .i64 y).wf = true) := Opens.int Try.underlying23
def B25 (x : S25) : Prop := (Lit.int .i64 x.f0).wf = true ∧ (Lit.int .i64 x.f1).wf = true
theorem opens25 : Opens Try.prog 25 k25 B25 := by
  intro H enc w base spare held fuel cs x h
  obtain ⟨xs, n, _, _, hl, hxs, hf⟩ := DataW.trod_struct Try.underlying25 h
  have hl : cs.length = 2 := hl
  obtain ⟨_, h0⟩ := x_field hxs hf 0 _ rfl
  obtain ⟨_, h1⟩ := x_field hxs hf 1 _ rfl
  obtain ⟨y0, k0, b0⟩ := opens23.field h0
  obtain ⟨y1, k1, b1⟩ := opens3.field h1
  refine ⟨⟨y0, y1⟩, ⟨_, _, ?_, k0, k1⟩, b0, b1⟩
  show cs = (cs.drop 0).take 1 ++ ((cs.drop 1).take 1)
  match cs, hl with
  | [c0, c1], _ => rfl
def B27 (x : S27) : Prop := (Lit.int .i64 x.f0).wf = true ∧ (Lit.int .i64 x.f1).wf = true ∧ B25 x.f2
theorem opens27 : Opens Try.prog 27 k27 B27 := by
  intro H enc w base spare held fuel cs x h
  obtain ⟨xs, n, _, _, hl, hxs, hf⟩ := DataW.trod_struct Try.underlying27 h
  have hl : cs.length = 4 := hl
  obtain ⟨_, h0⟩ := x_field hxs hf 0 _ rfl
  obtain ⟨_, h1⟩ := x_field hxs hf 1 _ rfl
  obtain ⟨_, h2⟩ := x_field hxs hf 2 _ rfl
  obtain ⟨y0, k0, b0⟩ := opens3.field h0
  obtain ⟨y1, k1, b1⟩ := opens3.field h1
  obtain ⟨y2, k2, b2⟩ := opens25.field h2
  refine ⟨⟨y0, y1, y2⟩, ⟨_, _, ?_, k0, ⟨_, _, rfl, k1, k2⟩⟩, b0, b1, b2⟩
  show cs = (cs.drop 0).take 1 ++ ((cs.drop 1).take 1 ++ ((cs.drop 2).take 2))
  match cs, hl with
  | [c0, c1, c2, c3], _ => rfl
theorem opens22 : Opens Try.prog 22 (Kd.slice 27 k27) (fun y => ∀ y1 ∈ y, B27 y1) := Opens.slice opens27 Try.underlying22 rfl
end Go.Proofs.Ytbohgnecphhdmaa.P
