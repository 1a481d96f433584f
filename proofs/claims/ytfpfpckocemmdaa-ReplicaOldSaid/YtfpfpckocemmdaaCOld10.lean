/- Part 10 of the walk. -/
import Derived.Test.YtfpfpckocemmdaaCOld09
section
namespace Go.Proofs.Ytfpfpckocemmdaa.P
open Go.RowKit Go.Proofs.YtfpfpckocemmdaaW.PrintWords Go.Proofs.YtfpfpckocemmdaaW.PrintLast Go.Proofs.YtfpfpckocemmdaaW.PrintMore
attribute [local go_sem] max2_int min2_int max_two min_two max_three min_three max_four min_four   -- for this text's walks alone
set_option linter.unusedVariables false
set_option linter.unusedSimpArgs false
set_option maxRecDepth 100000
theorem opens3 : Opens Try.prog 3 (Kd.int .i64) (fun y => (Lit.int .i64 y).wf = true) := Opens.int Try.underlying3
theorem opens4 : Opens Try.prog 4 Kd.bool (fun _ => True) := Opens.bool Try.underlying4
theorem opens9 : Opens Try.prog 9 Kd.string (fun s => s.size ≤ maxLen) := Opens.string Try.underlying9
theorem opens22 : Opens Try.prog 22 (Kd.slice 9 Kd.string) (fun y => (y.length ≤ 9223372036854775807 ∧ ∀ y1 ∈ y, y1.size ≤ maxLen)) := Opens.sized (Opens.slice opens9 Try.underlying22 rfl)
theorem opens23 : Opens Try.prog 23 (Kd.slice 3 (Kd.int .i64)) (fun y => (y.length ≤ 9223372036854775807 ∧ ∀ y1 ∈ y, (Lit.int .i64 y1).wf = true)) := Opens.sized (Opens.slice opens3 Try.underlying23 rfl)
def B66 (x : S66) : Prop := (Lit.int .i64 x.f0).wf = true ∧ (Lit.int .i64 x.f1).wf = true ∧ (Lit.int .i64 x.f2).wf = true ∧ (x.f3.length ≤ 9223372036854775807 ∧ ∀ y0 ∈ x.f3, y0.size ≤ maxLen)
theorem opens66 : Opens Try.prog 66 k66 B66 := by
  intro H enc w base spare held fuel cs x h
  obtain ⟨xs, n, _, _, hl, hxs, hf⟩ := DataW.trod_struct Try.underlying66 h
  have hl : cs.length = 4 := hl
  obtain ⟨_, h0⟩ := x_field hxs hf 0 _ rfl
  obtain ⟨_, h1⟩ := x_field hxs hf 1 _ rfl
  obtain ⟨_, h2⟩ := x_field hxs hf 2 _ rfl
  obtain ⟨_, h3⟩ := x_field hxs hf 3 _ rfl
  obtain ⟨y0, k0, b0⟩ := opens3.field h0
  obtain ⟨y1, k1, b1⟩ := opens3.field h1
  obtain ⟨y2, k2, b2⟩ := opens3.field h2
  obtain ⟨y3, k3, b3⟩ := opens22.field h3
  refine ⟨⟨y0, y1, y2, y3⟩, ⟨_, _, ?_, k0, ⟨_, _, rfl, k1, ⟨_, _, rfl, k2, k3⟩⟩⟩, b0, b1, b2, b3⟩
  show cs = (cs.drop 0).take 1 ++ ((cs.drop 1).take 1 ++ ((cs.drop 2).take 1 ++ ((cs.drop 3).take 1)))
  match cs, hl with
  | [c0, c1, c2, c3], _ => rfl
theorem opens24 : Opens Try.prog 24 (Kd.slice 66 k66) (fun y => (y.length ≤ 9223372036854775807 ∧ ∀ y1 ∈ y, B66 y1)) := Opens.sized (Opens.slice opens66 Try.underlying24 rfl)
def B26 (x : S26) : Prop := (Lit.int .i64 x.f0).wf = true ∧ (Lit.int .i64 x.f1).wf = true ∧ (Lit.int .i64 x.f2).wf = true ∧ (Lit.int .i64 x.f3).wf = true ∧ True ∧ (Lit.int .i64 x.f5).wf = true ∧ (x.f6.length ≤ 9223372036854775807 ∧ ∀ y0 ∈ x.f6, y0.size ≤ maxLen) ∧ (x.f7.length ≤ 9223372036854775807 ∧ ∀ y0 ∈ x.f7, (Lit.int .i64 y0).wf = true) ∧ (x.f8.length ≤ 9223372036854775807 ∧ ∀ y0 ∈ x.f8, B66 y0)
theorem opens26 : Opens Try.prog 26 k26 B26 := by
  intro H enc w base spare held fuel cs x h
  obtain ⟨xs, n, _, _, hl, hxs, hf⟩ := DataW.trod_struct Try.underlying26 h
  have hl : cs.length = 9 := hl
  obtain ⟨_, h0⟩ := x_field hxs hf 0 _ rfl
  obtain ⟨_, h1⟩ := x_field hxs hf 1 _ rfl
  obtain ⟨_, h2⟩ := x_field hxs hf 2 _ rfl
  obtain ⟨_, h3⟩ := x_field hxs hf 3 _ rfl
  obtain ⟨_, h4⟩ := x_field hxs hf 4 _ rfl
  obtain ⟨_, h5⟩ := x_field hxs hf 5 _ rfl
  obtain ⟨_, h6⟩ := x_field hxs hf 6 _ rfl
  obtain ⟨_, h7⟩ := x_field hxs hf 7 _ rfl
  obtain ⟨_, h8⟩ := x_field hxs hf 8 _ rfl
  obtain ⟨y0, k0, b0⟩ := opens3.field h0
  obtain ⟨y1, k1, b1⟩ := opens3.field h1
  obtain ⟨y2, k2, b2⟩ := opens3.field h2
  obtain ⟨y3, k3, b3⟩ := opens3.field h3
  obtain ⟨y4, k4, b4⟩ := opens4.field h4
  obtain ⟨y5, k5, b5⟩ := opens3.field h5
  obtain ⟨y6, k6, b6⟩ := opens22.field h6
  obtain ⟨y7, k7, b7⟩ := opens23.field h7
  obtain ⟨y8, k8, b8⟩ := opens24.field h8
  refine ⟨⟨y0, y1, y2, y3, y4, y5, y6, y7, y8⟩, ⟨_, _, ?_, k0, ⟨_, _, rfl, k1, ⟨_, _, rfl, k2, ⟨_, _, rfl, k3, ⟨_, _, rfl, k4, ⟨_, _, rfl, k5, ⟨_, _, rfl, k6, ⟨_, _, rfl, k7, k8⟩⟩⟩⟩⟩⟩⟩⟩, b0, b1, b2, b3, b4, b5, b6, b7, b8⟩
  show cs = (cs.drop 0).take 1 ++ ((cs.drop 1).take 1 ++ ((cs.drop 2).take 1 ++ ((cs.drop 3).take 1 ++ ((cs.drop 4).take 1 ++ ((cs.drop 5).take 1 ++ ((cs.drop 6).take 1 ++ ((cs.drop 7).take 1 ++ ((cs.drop 8).take 1))))))))
  match cs, hl with
  | [c0, c1, c2, c3, c4, c5, c6, c7, c8], _ => rfl
def B28 (x : S28) : Prop := (Lit.int .i64 x.f0).wf = true ∧ (Lit.int .i64 x.f1).wf = true ∧ (Lit.int .i64 x.f2).wf = true ∧ (Lit.int .i64 x.f3).wf = true ∧ (Lit.int .i64 x.f4).wf = true ∧ (Lit.int .i64 x.f5).wf = true ∧ (Lit.int .i64 x.f6).wf = true ∧ (x.f7.length ≤ 9223372036854775807 ∧ ∀ y0 ∈ x.f7, y0.size ≤ maxLen)
theorem opens28 : Opens Try.prog 28 k28 B28 := by
  intro H enc w base spare held fuel cs x h
  obtain ⟨xs, n, _, _, hl, hxs, hf⟩ := DataW.trod_struct Try.underlying28 h
  have hl : cs.length = 8 := hl
  obtain ⟨_, h0⟩ := x_field hxs hf 0 _ rfl
  obtain ⟨_, h1⟩ := x_field hxs hf 1 _ rfl
  obtain ⟨_, h2⟩ := x_field hxs hf 2 _ rfl
  obtain ⟨_, h3⟩ := x_field hxs hf 3 _ rfl
  obtain ⟨_, h4⟩ := x_field hxs hf 4 _ rfl
  obtain ⟨_, h5⟩ := x_field hxs hf 5 _ rfl
  obtain ⟨_, h6⟩ := x_field hxs hf 6 _ rfl
  obtain ⟨_, h7⟩ := x_field hxs hf 7 _ rfl
  obtain ⟨y0, k0, b0⟩ := opens3.field h0
  obtain ⟨y1, k1, b1⟩ := opens3.field h1
  obtain ⟨y2, k2, b2⟩ := opens3.field h2
  obtain ⟨y3, k3, b3⟩ := opens3.field h3
  obtain ⟨y4, k4, b4⟩ := opens3.field h4
  obtain ⟨y5, k5, b5⟩ := opens3.field h5
  obtain ⟨y6, k6, b6⟩ := opens3.field h6
  obtain ⟨y7, k7, b7⟩ := opens22.field h7
  refine ⟨⟨y0, y1, y2, y3, y4, y5, y6, y7⟩, ⟨_, _, ?_, k0, ⟨_, _, rfl, k1, ⟨_, _, rfl, k2, ⟨_, _, rfl, k3, ⟨_, _, rfl, k4, ⟨_, _, rfl, k5, ⟨_, _, rfl, k6, k7⟩⟩⟩⟩⟩⟩⟩, b0, b1, b2, b3, b4, b5, b6, b7⟩
  show cs = (cs.drop 0).take 1 ++ ((cs.drop 1).take 1 ++ ((cs.drop 2).take 1 ++ ((cs.drop 3).take 1 ++ ((cs.drop 4).take 1 ++ ((cs.drop 5).take 1 ++ ((cs.drop 6).take 1 ++ ((cs.drop 7).take 1)))))))
  match cs, hl with
  | [c0, c1, c2, c3, c4, c5, c6, c7], _ => rfl
end Go.Proofs.Ytfpfpckocemmdaa.P
end
section
namespace Go.Proofs.Ytfpfpckocemmdaa.P
open Go.RowKit Go.Proofs.YtfpfpckocemmdaaW.PrintWords Go.Proofs.YtfpfpckocemmdaaW.PrintLast Go.Proofs.YtfpfpckocemmdaaW.PrintMore
attribute [local go_sem] max2_int min2_int max_two min_two max_three min_three max_four min_four   -- for this text's walks alone
set_option linter.unusedVariables false
set_option linter.unusedSimpArgs false
def sextonlaw24_ReplicaOld.Pure : Prop := ∀ (x0 : S26) (x1 : S28), (B26 x0) → (B28 x1) → ∃ k, sextonlaw24_ReplicaOld.f k x0.f0 x0.f1 x0.f2 x0.f3 x0.f4 x0.f5 x0.f6 x0.f7 x0.f8 x1.f0 x1.f1 x1.f2 x1.f3 x1.f4 x1.f5 x1.f6 x1.f7 = some true
end Go.Proofs.Ytfpfpckocemmdaa.P
end
section
set_option linter.unusedVariables false
set_option linter.unusedSimpArgs false
namespace Go.Proofs.Ytfpfpckocemmdaa.Spec
open Go.RowKit Go.Proofs.YtfpfpckocemmdaaW.PrintWords Go.Proofs.YtfpfpckocemmdaaW.PrintLast Go.Proofs.YtfpfpckocemmdaaW.PrintMore Go.Proofs.Ytfpfpckocemmdaa.P
theorem wrap_nat (i : Nat) (h : i < 9223372036854775807) : wrap64 ((i : Int) + 1) = ((i + 1 : Nat) : Int) := by unfold wrap64; omega
theorem rd66_nat (l : List S66) (i : Nat) (h : i < l.length) : rd_T66 l (i : Int) = l[i] := by
  unfold rd_T66
  simp [List.getD_eq_getElem?_getD, List.getElem?_eq_getElem h]
theorem rdS_nat (l : List ByteArray) (i : Nat) (h : i < l.length) : rdOf ByteArray.empty l (i : Int) = l[i] := by
  unfold rdOf
  simp [List.getD_eq_getElem?_getD, List.getElem?_eq_getElem h]
theorem texts_loop (a : List ByteArray) (hm : a.length ≤ 9223372036854775807) (d : Nat) : ∀ (k i : Nat), a.length - i = d → i ≤ a.length → d < k → sextonref01_Texts.l0 k a a (i : Int) = some true := by
  induction d with
  | zero =>
    intro k i hd hi hk
    obtain ⟨k, rfl⟩ : ∃ m, k = m + 1 := ⟨k - 1, by omega⟩
    simp only [sextonref01_Texts.l0]
    rw [if_neg (by omega)]
  | succ d ih =>
    intro k i hd hi hk
    obtain ⟨k, rfl⟩ : ∃ m, k = m + 1 := ⟨k - 1, by omega⟩
    simp only [sextonref01_Texts.l0]
    rw [if_pos (by omega), if_pos (by omega), if_pos (by omega), if_pos trivial, wrap_nat i (by omega), ih k (i + 1) (by omega) (by omega) (by omega)]
theorem texts_self (a : List ByteArray) (hm : a.length ≤ 9223372036854775807) (k : Nat) (hk : a.length < k) : sextonref01_Texts.f k a a = some true := by
  simp only [sextonref01_Texts.f]
  rw [if_pos trivial]
  exact texts_loop a hm a.length k 0 (by omega) (by omega) hk
theorem ints_loop (a : List Int) (hm : a.length ≤ 9223372036854775807) (d : Nat) : ∀ (k i : Nat), a.length - i = d → i ≤ a.length → d < k → sextonref01_Ints.l0 k a a (i : Int) = some true := by
  induction d with
  | zero =>
    intro k i hd hi hk
    obtain ⟨k, rfl⟩ : ∃ m, k = m + 1 := ⟨k - 1, by omega⟩
    simp only [sextonref01_Ints.l0]
    rw [if_neg (by omega)]
  | succ d ih =>
    intro k i hd hi hk
    obtain ⟨k, rfl⟩ : ∃ m, k = m + 1 := ⟨k - 1, by omega⟩
    simp only [sextonref01_Ints.l0]
    rw [if_pos (by omega), if_pos (by omega), if_pos (by omega), if_pos trivial, wrap_nat i (by omega), ih k (i + 1) (by omega) (by omega) (by omega)]
theorem ints_self (a : List Int) (hm : a.length ≤ 9223372036854775807) (k : Nat) (hk : a.length < k) : sextonref01_Ints.f k a a = some true := by
  simp only [sextonref01_Ints.f]
  rw [if_pos trivial]
  exact ints_loop a hm a.length k 0 (by omega) (by omega) hk
theorem votes_loop (a : List S66) (hm : a.length ≤ 9223372036854775807) (B : Nat) (hB : B ≤ 9223372036854775807) (hv : ∀ v, v ∈ a → v.f3.length ≤ B) (d : Nat) : ∀ (k i : Nat), a.length - i = d → i ≤ a.length → d + B + 1 < k → sextonref22_Same.l0 k a a (i : Int) = some true := by
  induction d with
  | zero =>
    intro k i hd hi hk
    obtain ⟨k, rfl⟩ : ∃ m, k = m + 1 := ⟨k - 1, by omega⟩
    simp only [sextonref22_Same.l0]
    rw [if_neg (by omega)]
  | succ d ih =>
    intro k i hd hi hk
    obtain ⟨k, rfl⟩ : ∃ m, k = m + 1 := ⟨k - 1, by omega⟩
    have hi' : i < a.length := by omega
    have hl := hv _ (List.getElem_mem hi')
    simp only [sextonref22_Same.l0]
    rw [if_pos (by omega), if_pos (by omega), if_pos (by omega), rd66_nat a i hi']
    simp only [sextonref22_SameVote.f]
    rw [if_pos trivial, if_pos trivial, if_pos trivial, texts_self _ (by omega) k (by omega)]
    simp only [Option.bind_some]
    rw [if_pos trivial, wrap_nat i (by omega), ih k (i + 1) (by omega) (by omega) (by omega)]
theorem votes_self (a : List S66) (hm : a.length ≤ 9223372036854775807) (B : Nat) (hB : B ≤ 9223372036854775807) (hv : ∀ v, v ∈ a → v.f3.length ≤ B) (k : Nat) (hk : a.length + B + 1 < k) : sextonref22_Same.f k a a = some true := by
  simp only [sextonref22_Same.f]
  rw [if_pos trivial]
  exact votes_loop a hm B hB hv a.length k 0 (by omega) (by omega) hk
theorem node_self (a0 a1 a2 a3 : Int) (a4 : Bool) (a5 : Int) (l6 : List ByteArray) (l7 : List Int) (l8 : List S66) (B : Nat) (hB : B ≤ 1000000) (h6 : l6.length ≤ B) (h7 : l7.length ≤ B) (h8 : l8.length ≤ B) (hv : ∀ v, v ∈ l8 → v.f3.length ≤ B) (k : Nat) (hk : B + B + 1 < k) :
    sextonref24_Same.f k a0 a1 a2 a3 a4 a5 l6 l7 l8 a0 a1 a2 a3 a4 a5 l6 l7 l8 = some true := by
  simp only [sextonref24_Same.f]
  rw [if_pos trivial, if_pos trivial, if_pos trivial, if_pos trivial, if_pos (by simp), if_pos trivial, texts_self l6 (by omega) k (by omega)]
  simp only [Option.bind_some]
  rw [if_pos trivial, ints_self l7 (by omega) k (by omega)]
  simp only [Option.bind_some]
  rw [if_pos trivial, votes_self l8 (by omega) B (by omega) hv k (by omega)]
  rfl
theorem short_loop (a : List ByteArray) (hm : a.length ≤ 9223372036854775807) (d : Nat) : ∀ (k i : Nat), a.length - i = d → i ≤ a.length → d < k → sextonref01_Short.l0 k a (i : Int) = some ((a.drop i).all fun s => decide ((s.size : Int) ≤ 300)) := by
  induction d with
  | zero =>
    intro k i hd hi hk
    obtain ⟨k, rfl⟩ : ∃ m, k = m + 1 := ⟨k - 1, by omega⟩
    simp only [sextonref01_Short.l0]
    rw [if_neg (by omega), List.drop_eq_nil_of_le (by omega)]
    rfl
  | succ d ih =>
    intro k i hd hi hk
    obtain ⟨k, rfl⟩ : ∃ m, k = m + 1 := ⟨k - 1, by omega⟩
    have hi' : i < a.length := by omega
    simp only [sextonref01_Short.l0]
    rw [if_pos (by omega), if_pos (by omega), rdS_nat a i hi', wrap_nat i (by omega), ih k (i + 1) (by omega) (by omega) (by omega), List.drop_eq_getElem_cons hi', List.all_cons]
    by_cases h : (a[i].size : Int) > 300
    · rw [if_pos h, decide_eq_false (by omega)]; rfl
    · rw [if_neg h, decide_eq_true (by omega)]; rfl
theorem short_of (a : List ByteArray) (hm : a.length ≤ 9223372036854775807) (k : Nat) (hk : a.length < k) : sextonref01_Short.f k a = some (a.all fun s => decide ((s.size : Int) ≤ 300)) := by
  simp only [sextonref01_Short.f]
  exact short_loop a hm a.length k 0 (by omega) (by omega) hk
def bigV (v : S66) : Bool := !(v.f3.all fun s => decide ((s.size : Int) ≤ 300)) || decide ((v.f3.length : Int) > 70)
def bigVs (a : List S66) : Bool := if (a.length : Int) ≤ 30 then a.any bigV else true
theorem big22_loop (a : List S66) (hm : a.length ≤ 30) (B : Nat) (hB : B ≤ 9223372036854775807) (hv : ∀ v, v ∈ a → v.f3.length ≤ B) (d : Nat) : ∀ (k i : Nat), a.length - i = d → i ≤ a.length → 2 * d + B + 2 < k → sextonref22_Big.l0 k a (i : Int) = some ((a.drop i).any bigV) := by
  induction d with
  | zero =>
    intro k i hd hi hk
    obtain ⟨k, rfl⟩ : ∃ m, k = m + 2 := ⟨k - 2, by omega⟩
    simp only [sextonref22_Big.l0]
    rw [if_neg (by omega), List.drop_eq_nil_of_le (by omega)]
    simp only [sextonref22_Big.j1]
    rw [if_neg (by simp), decide_eq_false (by omega)]
    rfl
  | succ d ih =>
    intro k i hd hi hk
    obtain ⟨k, rfl⟩ : ∃ m, k = m + 1 := ⟨k - 1, by omega⟩
    have hi' : i < a.length := by omega
    have hl := hv _ (List.getElem_mem hi')
    simp only [sextonref22_Big.l0]
    rw [if_pos (by omega), decide_eq_true (by omega)]
    obtain ⟨k, rfl⟩ : ∃ m, k = m + 1 := ⟨k - 1, by omega⟩
    simp only [sextonref22_Big.j1]
    rw [if_pos trivial, if_pos (by omega), if_pos (by omega), rd66_nat a i hi', short_of _ (by omega) k (by omega), wrap_nat i (by omega), ih k (i + 1) (by omega) (by omega) (by omega), List.drop_eq_getElem_cons hi', List.any_cons]
    simp only [Option.bind_some]
    cases hs : a[i].f3.all (fun s => decide ((s.size : Int) ≤ 300)) with
    | false =>
      rw [if_neg (by simp)]
      simp [bigV, hs]
    | true =>
      rw [if_pos rfl]
      by_cases h : (a[i].f3.length : Int) > 70
      · rw [if_pos h]; simp only [bigV, hs, decide_eq_true h]; rfl
      · rw [if_neg h]; simp only [bigV, hs, decide_eq_false h]; rfl
theorem big22_of (a : List S66) (hm : a.length ≤ 9223372036854775807) (B : Nat) (hB : B ≤ 9223372036854775807) (hv : ∀ v, v ∈ a → v.f3.length ≤ B) (k : Nat) (hk : 64 + B < k) : sextonref22_Big.f k a = some (bigVs a) := by
  simp only [sextonref22_Big.f]
  unfold bigVs
  by_cases h : (a.length : Int) ≤ 30
  · rw [if_pos h]
    exact big22_loop a (by omega) B hB hv a.length k 0 (by omega) (by omega) (by omega)
  · rw [if_neg h]
    obtain ⟨k, rfl⟩ : ∃ m, k = m + 2 := ⟨k - 2, by omega⟩
    simp only [sextonref22_Big.l0]
    rw [if_pos (by omega), decide_eq_false (by omega)]
    simp only [sextonref22_Big.j1]
    rw [if_neg (by simp), decide_eq_true (by omega)]
def bigM (l : List ByteArray) : Bool := if (l.length : Int) ≤ 80 then l.any (fun s => decide ((s.size : Int) > 400)) else true
theorem big23_loop (a0 a1 a2 a3 a4 a5 a6 : Int) (a : List ByteArray) (hm : a.length ≤ 80) (d : Nat) : ∀ (k i : Nat), a.length - i = d → i ≤ a.length → 2 * d + 2 < k → sextonref23_Big.l0 k (i : Int) a0 a1 a2 a3 a4 a5 a6 a = some ((a.drop i).any fun s => decide ((s.size : Int) > 400)) := by
  induction d with
  | zero =>
    intro k i hd hi hk
    obtain ⟨k, rfl⟩ : ∃ m, k = m + 2 := ⟨k - 2, by omega⟩
    simp only [sextonref23_Big.l0]
    rw [if_neg (by omega), List.drop_eq_nil_of_le (by omega)]
    simp only [sextonref23_Big.j1]
    rw [if_neg (by simp), decide_eq_false (by omega)]
    rfl
  | succ d ih =>
    intro k i hd hi hk
    obtain ⟨k, rfl⟩ : ∃ m, k = m + 1 := ⟨k - 1, by omega⟩
    have hi' : i < a.length := by omega
    simp only [sextonref23_Big.l0]
    rw [if_pos (by omega), decide_eq_true (by omega)]
    obtain ⟨k, rfl⟩ : ∃ m, k = m + 1 := ⟨k - 1, by omega⟩
    simp only [sextonref23_Big.j1]
    rw [if_pos trivial, if_pos (by omega), if_pos (by omega), rdS_nat a i hi', wrap_nat i (by omega), ih k (i + 1) (by omega) (by omega) (by omega), List.drop_eq_getElem_cons hi', List.any_cons]
    by_cases h : (a[i].size : Int) > 400
    · rw [if_pos h, decide_eq_true h]; rfl
    · rw [if_neg h, decide_eq_false h]; rfl
theorem big23_of (a0 a1 a2 a3 a4 a5 a6 : Int) (a : List ByteArray) (k : Nat) (hk : 170 < k) : sextonref23_Big.f k a0 a1 a2 a3 a4 a5 a6 a = some (bigM a) := by
  simp only [sextonref23_Big.f]
  unfold bigM
  by_cases h : (a.length : Int) ≤ 80
  · rw [if_pos h]
    exact big23_loop a0 a1 a2 a3 a4 a5 a6 a (by omega) a.length k 0 (by omega) (by omega) (by omega)
  · rw [if_neg h]
    obtain ⟨k, rfl⟩ : ∃ m, k = m + 2 := ⟨k - 2, by omega⟩
    simp only [sextonref23_Big.l0]
    rw [if_pos (by omega), decide_eq_false (by omega)]
    simp only [sextonref23_Big.j1]
    rw [if_neg (by simp), decide_eq_true (by omega)]
def farB (l6 : List ByteArray) (l7 : List Int) (l8 : List S66) (m7 : List ByteArray) (s : ByteArray) : Bool := bigVs [⟨0, 0, 0, l6⟩] || (bigVs l8 || (decide ((l7.length : Int) > 30) || (bigM m7 || decide ((s.size : Int) > 400))))
theorem far_of (a0 a1 a2 a3 : Int) (a4 : Bool) (a5 : Int) (l6 : List ByteArray) (l7 : List Int) (l8 : List S66) (b0 b1 b2 b3 b4 b5 b6 : Int) (m7 : List ByteArray) (s : ByteArray) (B : Nat) (hB : B ≤ 9223372036854775807) (h6 : l6.length ≤ B) (h8 : l8.length ≤ 9223372036854775807) (hv : ∀ v, v ∈ l8 → v.f3.length ≤ B) (k : Nat) (hk : 171 + B < k) :
    sextonlaw24_far.f k a0 a1 a2 a3 a4 a5 l6 l7 l8 b0 b1 b2 b3 b4 b5 b6 m7 s = some (farB l6 l7 l8 m7 s) := by
  have e1 : sextonref22_Big.f k [⟨0, 0, 0, l6⟩] = some (bigVs [⟨0, 0, 0, l6⟩]) := big22_of _ (by simp) B hB (by intro v hv; simp at hv; subst hv; exact h6) k (by omega)
  have e2 := big22_of l8 h8 B hB hv k (by omega)
  have e3 := big23_of b0 b1 b2 b3 b4 b5 b6 m7 k (by omega)
  simp only [sextonlaw24_far.f, sextonref24_Big.f, e1, e2, e3, Option.bind_some]
  unfold farB
  cases bigVs [⟨0, 0, 0, l6⟩] with
  | true => simp
  | false =>
    cases bigVs l8 with
    | true => simp
    | false =>
      by_cases h7 : (l7.length : Int) > 30
      · simp [h7]
      · cases bigM m7 <;> simp [h7]
structure Small (l6 : List ByteArray) (l7 : List Int) (l8 : List S66) (m7 : List ByteArray) (s : ByteArray) : Prop where
  log : l6.length ≤ 70
  acks : l7.length ≤ 30
  votes : l8.length ≤ 30
  each : ∀ v, v ∈ l8 → v.f3.length ≤ 70
  msg : m7.length ≤ 80
  text : s.size ≤ 400
theorem bigVs_not {a : List S66} (h : bigVs a = false) : a.length ≤ 30 ∧ ∀ v, v ∈ a → v.f3.length ≤ 70 := by
  unfold bigVs at h
  split at h
  · refine ⟨by omega, fun v hv => ?_⟩
    have h2 := List.any_eq_false.1 h v hv
    simp only [bigV, Bool.or_eq_true, decide_eq_true_eq, not_or] at h2
    omega
  · cases h
theorem far_not {l6 : List ByteArray} {l7 : List Int} {l8 : List S66} {m7 : List ByteArray} {s : ByteArray} (h : farB l6 l7 l8 m7 s = false) : Small l6 l7 l8 m7 s := by
  unfold farB at h
  simp only [Bool.or_eq_false_iff, decide_eq_false_iff_not] at h
  obtain ⟨h1, h2, h3, h4, h5⟩ := h
  have k1 := (bigVs_not h1).2 ⟨0, 0, 0, l6⟩ (by simp)
  have k2 := bigVs_not h2
  refine ⟨k1, by omega, k2.1, k2.2, ?_, by omega⟩
  unfold bigM at h4
  split at h4
  · omega
  · cases h4
theorem Small.fits {l6 : List ByteArray} {l7 : List Int} {l8 : List S66} {m7 : List ByteArray} {s : ByteArray} (h : Small l6 l7 l8 m7 s) (hw : ∀ v, v ∈ l8 → (Lit.int .i64 v.f0).wf = true) : fitB l6 l7 l8 = true := by
  unfold fitB
  have h1 := h.log
  have h2 := h.acks
  have h3 := h.votes
  simp only [Bool.and_eq_true, decide_eq_true_eq, List.all_eq_true]
  exact ⟨⟨⟨by omega, by omega⟩, by omega⟩, fun v hv => ⟨by have := h.each v hv; omega, hw v hv⟩⟩
end Go.Proofs.Ytfpfpckocemmdaa.Spec
end
section
set_option linter.unusedVariables false
set_option linter.unusedSimpArgs false
namespace Go.Proofs.Ytfpfpckocemmdaa.Pure
open Go.RowKit Go.Proofs.YtfpfpckocemmdaaW.PrintWords Go.Proofs.YtfpfpckocemmdaaW.PrintLast Go.Proofs.YtfpfpckocemmdaaW.PrintMore Go.Proofs.Ytfpfpckocemmdaa.P Go.Proofs.Ytfpfpckocemmdaa.Spec
theorem ReplicaOld : sextonlaw24_ReplicaOld.Pure := by
  rintro ⟨x0, x1, x2, x3, x4, x5, x6, x7, x8⟩ ⟨m0, m1, m2, m3, m4, m5, m6, m7⟩ ⟨-, -, -, -, -, -, h6, h7, h8⟩ -
  simp only at h6 h7 h8
  obtain ⟨K, hK⟩ : ∃ K : Nat, 9223372036854777000 < K := ⟨_, Nat.lt_succ_self _⟩
  refine ⟨K + 1, ?_⟩
  have hfar := far_of x0 x1 x2 x3 x4 x5 x6 x7 x8 m0 m1 m2 m3 m4 m5 m6 m7 ⟨#[]⟩ 9223372036854775807 (Nat.le_refl _) h6.1 h8.1 (fun v hv => (h8.2 v hv).2.2.2.1) (K + 1) (by omega)
  simp only [sextonlaw24_ReplicaOld.f, hfar, Option.bind_some]
  cases hf : farB x6 x7 x8 m7 ⟨#[]⟩ with
  | true =>
    rw [if_pos rfl]
    simp only [sextonlaw24_ReplicaOld.j0]
    rw [if_pos trivial]
  | false =>
    rw [if_neg (by simp)]
    simp only [sextonlaw24_ReplicaOld.j0]
    have hs := far_not hf
    have hfit := hs.fits (fun v hv => (h8.2 v hv).1)
    by_cases hge : m3 ≥ x2
    · rw [if_pos (decide_eq_true hge)]
    · rw [if_neg (by simpa using hge)]
      simp only [replica_Handle.f, sextonlaw24_worked.f]
      rw [if_pos hfit]
      simp only [Option.bind_some, flat3]
      by_cases hok : isB ⟨x0, x1, x2, x3, x4, x5, x6, x7, x8, []⟩ = true ∧ okMsg ⟨x0, x1, x2, x3, x4, x5, x6, x7, x8, []⟩ ⟨m0, m1, m2, m3, m4, m5, m6, m7⟩ = true
      · have e : handleOf ⟨x0, x1, x2, x3, x4, x5, x6, x7, x8, []⟩ ⟨m0, m1, m2, m3, m4, m5, m6, m7⟩ = (⟨x0, x1, x2, x3, x4, x5, x6, x7, x8, []⟩, 0) := by
          unfold handleOf
          rw [if_pos hok]
          unfold stepOf
          rw [if_neg hge, (right_of hok.1).opened]
        have hn := hs.log
        have ha := hs.acks
        have hv := hs.votes
        have hself := node_self x0 x1 x2 x3 x4 x5 x6 x7 x8 100 (by omega) (by omega) (by omega) (by omega) (fun v hv => by have := hs.each v hv; omega) K (by omega)
        rw [e]
        simp only
        rw [if_pos trivial, if_pos trivial, hself]
        rfl
      · have e : handleOf ⟨x0, x1, x2, x3, x4, x5, x6, x7, x8, []⟩ ⟨m0, m1, m2, m3, m4, m5, m6, m7⟩ = (zeroNod, 1) := by
          unfold handleOf
          rw [if_neg hok]
        rw [e]
        rfl
end Go.Proofs.Ytfpfpckocemmdaa.Pure
end
