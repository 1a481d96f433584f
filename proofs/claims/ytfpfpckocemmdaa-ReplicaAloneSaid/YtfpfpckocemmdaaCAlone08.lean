/- Part 8 of the walk. -/
import Derived.Test.YtfpfpckocemmdaaCAlone07
import Derived.ProofKit
import Derived.OpenShut
import Derived.ShutString
import Derived.ChangeOld
import Derived.SizedLaws
import Derived.Deep.Slices
import Derived.ChangeArms
section
set_option linter.unusedVariables false
set_option linter.unusedSimpArgs false
namespace Go.Proofs.YtfpfpckocemmdaaW.PrintMore
open Go.RowKit Go.Proofs.YtfpfpckocemmdaaW.PrintWords Go.Proofs.YtfpfpckocemmdaaW.PrintLast Go.ChangeShapes Go.WideShapes Go.ChangeAt
variable {P : Program} {α : Type}
def Opens (P : Program) (t : TypeId) (d : Kd α) (B : α → Prop) : Prop :=
  ∀ {H : Type} (enc : TypeId × Value → H) (w : World) (base : Nat) (spare : Nat → Bool) (held : Bool) (fuel : Nat) (cs : List Value) (x : DataW H × List MemPlace),
    DataW.trod enc P w base spare held fuel t cs = some x → ∃ y : α, d.K w y cs ∧ B y
theorem Opens.int {t : TypeId} {k : IntKind} (ht : P.underlying t = some (.int k)) : Opens P t (Kd.int k) (fun y => (Lit.int k y).wf = true) := by
  intro H enc w base spare held fuel cs x h
  obtain ⟨n, rfl, _, hw⟩ := DataW.trod_int ht h
  exact ⟨n, rfl, hw⟩
theorem Opens.bool {t : TypeId} (ht : P.underlying t = some .bool) : Opens P t Kd.bool (fun _ => True) := by
  intro H enc w base spare held fuel cs x h
  obtain ⟨n, rfl, _⟩ := DataW.trod_bool ht h
  exact ⟨n, rfl, trivial⟩
theorem Opens.string {t : TypeId} (ht : P.underlying t = some .string) : Opens P t Kd.string (fun s => s.size ≤ maxLen) := by
  intro H enc w base spare held fuel cs x h
  obtain ⟨n, rfl, _, hs⟩ := DataW.trod_string ht h
  exact ⟨n, rfl, hs⟩
theorem Opens.slice {t e : TypeId} {d : Kd α} {B : α → Prop} (hd : Opens P e d B) (ht : P.underlying t = some (.slice e)) (hc : P.cellsOf e = d.sz) : Opens P t (Kd.slice e d) (fun xs => ∀ y ∈ xs, B y) := by
  intro H enc w base spare held fuel cs x h
  rcases Go.Deep.open_slice ht h with ⟨rfl, _⟩ | ⟨a, len, cap, m, n, D, Pl, rfl, hb, hl, hm, hmm, _, hx⟩
  · exact ⟨[], ⟨none, 0, rfl, Nat.le_refl _, Kd.C_nil d w⟩, by simp⟩
  · have hlm : len ≤ m := by rw [hmm]; split <;> omega
    have hy : ∀ i : Fin len, ∃ y : α, ∃ cs', w.cells? base (a.add (i.1 * P.cellsOf e)) (P.cellsOf e) = some cs' ∧ d.K w y cs' ∧ B y := fun i => by
      obtain ⟨cs', h1, h2⟩ := hx i.1 (by omega)
      obtain ⟨y, hK, hB⟩ := hd enc w base spare held n cs' _ h2
      exact ⟨y, cs', h1, hK, hB⟩
    refine ⟨List.ofFn fun i => Classical.choose (hy i), ⟨some a, cap, by simp, by simpa using hl, by simp, by simp only [List.length_ofFn]; unfold maxLen at hm; omega, fun _ => ⟨a, rfl, fun j p hj => ?_⟩⟩, fun y hy' => ?_⟩
    · obtain ⟨hjl, hp⟩ := List.getElem?_eq_some_iff.1 hj
      have hjl' : j < len := by simpa using hjl
      obtain ⟨cs', h1, hK, _⟩ := Classical.choose_spec (hy ⟨j, hjl'⟩)
      have hp' : Classical.choose (hy ⟨j, hjl'⟩) = p := by rw [← hp]; simp
      rw [hp'] at hK
      obtain ⟨_, hlen, hcell⟩ := World.cells?_some h1
      refine ⟨cs', by rw [hlen, hc], hK, fun i u hu => ?_⟩
      have hi : i < cs'.length := (List.getElem?_eq_some_iff.1 hu).1
      have h3 := hcell i (by omega)
      rw [Go.Deep.add_add, hc] at h3
      rw [h3, hu]
    · obtain ⟨i, hi⟩ := (List.mem_ofFn).1 hy'
      obtain ⟨cs', h1, _, hB⟩ := Classical.choose_spec (hy i)
      rw [← hi]
      exact hB
theorem Opens.sized {t e : TypeId} {d : Kd α} {B : List α → Prop} (hd : Opens P t (Kd.slice e d) B) : Opens P t (Kd.slice e d) (fun xs => xs.length ≤ 9223372036854775807 ∧ B xs) := by
  intro H enc w base spare held fuel cs x h
  obtain ⟨xs, hK, hB⟩ := hd enc w base spare held fuel cs x h
  obtain ⟨A, c, hcs, hl, hC⟩ := hK
  exact ⟨xs, ⟨A, c, hcs, hl, hC⟩, hC.2.1, hB⟩
theorem Opens.arg_slice {H : Type} {enc : TypeId × Value → H} {t e : TypeId} {d : Kd α} {B : List α → Prop} (hd : Opens P t (Kd.slice e d) B) (ht : P.underlying t = some (.slice e)) {w : World} {base b0 : Nat} {r : Reach} {spare : Nat → Bool} {held : Bool} {v : Value} {y : DataW H} {ps : List MemPlace}
    (hv : Value.okWide P w r b0 t v) (h : DataW.Trod enc P w base spare held t v y ps) : ∃ A c xs, v = .slice A xs.length c ∧ xs.length ≤ c ∧ d.C w A xs.length xs ∧ B xs := by
  obtain ⟨a, len, cap, rfl⟩ := okWide_slice ht hv
  obtain ⟨fuel, hf⟩ := h
  obtain ⟨xs, ⟨A, c, hcs, hl, hC⟩, hB⟩ := hd enc w base spare held fuel _ _ hf
  have hcs' : [Value.slice a len cap] = [Value.slice A xs.length c] := by simpa [Value.cells] using hcs
  injection hcs' with hcs' _
  exact ⟨A, c, xs, hcs', hl, hC, hB⟩
end Go.Proofs.YtfpfpckocemmdaaW.PrintMore
end
section
namespace Go.Proofs.Ytfpfpckocemmdaa.P
open Go.RowKit Go.Proofs.YtfpfpckocemmdaaW.PrintWords Go.Proofs.YtfpfpckocemmdaaW.PrintLast Go.Proofs.YtfpfpckocemmdaaW.PrintMore
attribute [local go_sem] max2_int min2_int max_two min_two max_three min_three max_four min_four   -- for this text's walks alone
set_option linter.unusedVariables false
set_option linter.unusedSimpArgs false
set_option maxRecDepth 100000
theorem opens9 : Opens Try.prog 9 Kd.string (fun s => s.size ≤ maxLen) := Opens.string Try.underlying9
theorem opens22 : Opens Try.prog 22 (Kd.slice 9 Kd.string) (fun y => (y.length ≤ 9223372036854775807 ∧ ∀ y1 ∈ y, y1.size ≤ maxLen)) := Opens.sized (Opens.slice opens9 Try.underlying22 rfl)
end Go.Proofs.Ytfpfpckocemmdaa.P
end
section
namespace Go.Proofs.Ytfpfpckocemmdaa.P
open Go.RowKit Go.Proofs.YtfpfpckocemmdaaW.PrintWords Go.Proofs.YtfpfpckocemmdaaW.PrintLast Go.Proofs.YtfpfpckocemmdaaW.PrintMore
attribute [local go_sem] max2_int min2_int max_two min_two max_three min_three max_four min_four   -- for this text's walks alone
set_option linter.unusedVariables false
set_option linter.unusedSimpArgs false
def sextonlaw24_ReplicaAlone.Pure : Prop := ∀ (l0 : List ByteArray) (a1 : Int), ((l0.length ≤ 9223372036854775807 ∧ ∀ y0 ∈ l0, y0.size ≤ maxLen)) → ((Lit.int .i64 a1).wf = true) → ∃ k, sextonlaw24_ReplicaAlone.f k l0 a1 = some true
end Go.Proofs.Ytfpfpckocemmdaa.P
end
section
set_option linter.unusedVariables false
set_option linter.unusedSimpArgs false
namespace Go.Proofs.Ytfpfpckocemmdaa.Spec
open Go.RowKit Go.Proofs.YtfpfpckocemmdaaW.PrintWords Go.Proofs.YtfpfpckocemmdaaW.PrintLast Go.Proofs.YtfpfpckocemmdaaW.PrintMore Go.Proofs.Ytfpfpckocemmdaa.P
theorem wrap_nat (i : Nat) (h : i < 9223372036854775807) : wrap64 ((i : Int) + 1) = ((i + 1 : Nat) : Int) := by unfold wrap64; omega
theorem rdS_nat (l : List ByteArray) (i : Nat) (h : i < l.length) : rdOf ByteArray.empty l (i : Int) = l[i] := by
  unfold rdOf
  simp [List.getD_eq_getElem?_getD, List.getElem?_eq_getElem h]
theorem texts_loop (a : List ByteArray) (hm : a.length ≤ 9223372036854775807) (d : Nat) : ∀ (k i : Nat), a.length - i = d → i ≤ a.length → d < k → sextonref01_Texts.l0 k a a (i : Int) = some true := by
  induction d with
  | zero =>
    intro k i hd hi hk
    obtain ⟨k, rfl⟩ : ∃ m, k = m + 1 := ⟨k - 1, by omega⟩
    simp only [sextonref01_Texts.l0]
    rw [if_neg (by omega)]
  | succ d ih =>
    intro k i hd hi hk
    obtain ⟨k, rfl⟩ : ∃ m, k = m + 1 := ⟨k - 1, by omega⟩
    simp only [sextonref01_Texts.l0]
    rw [if_pos (by omega), if_pos (by omega), if_pos (by omega), if_pos trivial, wrap_nat i (by omega), ih k (i + 1) (by omega) (by omega) (by omega)]
theorem texts_self (a : List ByteArray) (hm : a.length ≤ 9223372036854775807) (k : Nat) (hk : a.length < k) : sextonref01_Texts.f k a a = some true := by
  simp only [sextonref01_Texts.f]
  rw [if_pos trivial]
  exact texts_loop a hm a.length k 0 (by omega) (by omega) hk
structure Small (l6 : List ByteArray) (l7 : List Int) (l8 : List S66) (m7 : List ByteArray) (s : ByteArray) : Prop where
  log : l6.length ≤ 70
  acks : l7.length ≤ 30
  votes : l8.length ≤ 30
  each : ∀ v, v ∈ l8 → v.f3.length ≤ 70
  msg : m7.length ≤ 80
  text : s.size ≤ 400
end Go.Proofs.Ytfpfpckocemmdaa.Spec
end
section
set_option linter.unusedVariables false
set_option linter.unusedSimpArgs false
namespace Go.Proofs.Ytfpfpckocemmdaa.Pure
open Go.RowKit Go.Proofs.YtfpfpckocemmdaaW.PrintWords Go.Proofs.YtfpfpckocemmdaaW.PrintLast Go.Proofs.YtfpfpckocemmdaaW.PrintMore Go.Proofs.Ytfpfpckocemmdaa.P Go.Proofs.Ytfpfpckocemmdaa.Spec
def alone (v : Int) (log : List ByteArray) : Nod := ⟨0, 1, v, v, true, (log.length : Int), log, [(log.length : Int)], [], []⟩
theorem alone_right (v : Int) (log : List ByteArray) (h0 : 0 ≤ v) (h1 : v ≤ 1000000) (hl : log.length ≤ 60) (hs : log.any longB = false) : isB (alone v log) = true := by
  refine is_of ⟨.inl rfl, Int.le_refl _, show (0 : Int) < 1 by decide, h0, h1, h0, Int.le_refl _, fun _ => rfl, ?_, rfl, ?_, show (0 : Int) ≤ 1 by decide, rfl⟩
  · show loggedB log (log.length : Int) = true
    unfold loggedB
    simp only [Bool.and_eq_true, decide_eq_true_eq, withinB_iff, Bool.not_eq_true']
    exact ⟨by omega, ⟨by omega, by omega⟩, hs⟩
  · intro a ha
    change a ∈ [(log.length : Int)] at ha
    simp only [List.mem_singleton] at ha
    subst ha
    exact ⟨by omega, Int.le_refl _⟩
theorem alone_opened (v : Int) (log : List ByteArray) : (alone v log).opened = alone v log := rfl
theorem commit_one (a : Int) (h : 0 ≤ a) : commitOf [a] = a := by
  unfold commitOf
  have e : quorum_Commit.sorted [a] = [a] := rfl
  rw [e]
  simp
  omega
theorem alone_leads (v : Int) (log : List ByteArray) : (alone v log).leads = true := by
  unfold Nod.leads Nod.prim alone
  simp [Int.emod_one]
theorem alone_tell (x : Nod) (hn : x.n = 1) (hi : x.id = 0) (ht : x.told = []) : x.tell = x := by
  unfold Nod.tell Nod.tells Nod.upto
  rw [hn, hi, ht]
  cases x
  simp only at ht hn hi
  subst ht hn hi
  simp [List.range_succ]
theorem alone_counts (v : Int) (c a : Int) (log : List ByteArray) (hc : c ≤ (log.length : Int)) : (⟨0, 1, v, v, true, c, log, [a], [], []⟩ : Nod).counts = alone v log := by
  unfold Nod.counts Nod.count
  have hl : (⟨0, 1, v, v, true, c, log, [a], [], []⟩ : Nod).leads = true := by unfold Nod.leads Nod.prim; simp [Int.emod_one]
  rw [if_pos hl]
  show (⟨0, 1, v, v, true, max c (commitOf [(log.length : Int)]), log, [(log.length : Int)], [], []⟩ : Nod) = _
  rw [commit_one _ (by omega)]
  unfold alone
  congr 1
  omega
theorem alone_late (v : Int) (log : List ByteArray) : lateOf (alone v log) = alone (v + 1) log := by
  have hm : ((alone v log).joins (v + 1)).may = true := by
    show (!false && ((v + 1) % 1 == 0) && enoughOf [⟨0, v, (log.length : Int), log⟩] 1) = true
    rw [Int.emod_one]
    unfold enoughOf
    simp [quorum_Enough.froms]
  have hb : ((alone v log).joins (v + 1)).begin_ = alone (v + 1) log := by
    unfold Nod.begin_
    rw [if_pos hm]
    have hr : ((alone v log).joins (v + 1)).rise.clear = (⟨0, 1, v + 1, v + 1, true, min (max 0 (log.length : Int)) (log.length : Int), log, [0], [], []⟩ : Nod) := rfl
    rw [hr, alone_counts _ _ _ _ (by omega)]
    exact alone_tell _ rfl rfl rfl
  unfold lateOf
  rw [alone_opened]
  show (if ((alone v log).joins (v + 1)).begin_.view % ((alone v log).joins (v + 1)).begin_.n = ((alone v log).joins (v + 1)).begin_.id then ((alone v log).joins (v + 1)).begin_ else _) = _
  rw [hb]
  exact if_pos (Int.emod_one (v + 1))
theorem alone_timeout (v : Int) (log : List ByteArray) (h0 : 0 ≤ v) (h1 : v < 1000000) (hl : log.length ≤ 60) (hs : log.any longB = false) : timeoutOf (alone v log) = (alone (v + 1) log, 0) := by
  unfold timeoutOf
  rw [if_pos (alone_right v log h0 (by omega) hl hs), if_neg (show ¬ (alone v log).view = 1000000 from by show ¬ v = 1000000; omega), alone_late]
theorem alone_ask (v : Int) (log : List ByteArray) (s : ByteArray) (h0 : 0 ≤ v) (h1 : v ≤ 1000000) (hl : log.length < 60) (hs : log.any longB = false) (hz : s.size ≤ 300) : askOf (alone v log) s = (alone v (log ++ [s]), 0) := by
  unfold askOf
  rw [if_pos (alone_right v log h0 h1 (by omega) hs), alone_opened, if_pos (alone_leads v log), if_neg (show ¬ (((alone v log).log.length : Int) = 60 ∨ (s.size : Int) > 300) from by show ¬ ((log.length : Int) = 60 ∨ _); omega)]
  have e : ((alone v log).logs s) = (⟨0, 1, v, v, true, (log.length : Int), log ++ [s], [(log.length : Int)], [], []⟩ : Nod) := rfl
  rw [e, alone_counts _ _ _ _ (by rw [List.length_append]; omega), alone_tell _ rfl rfl rfl]
theorem fit_alone (log : List ByteArray) (hl : log.length ≤ 60) (a : Int) : fitB log [a] [] = true := by
  unfold fitB
  simp
  omega
theorem timeout_at (v : Int) (log : List ByteArray) (h0 : 0 ≤ v) (h1 : v < 1000000) (hl : log.length ≤ 60) (hs : log.any longB = false) :
    replica_Timeout.f 0 1 v v true (log.length : Int) log [(log.length : Int)] [] = some (0, 1, v + 1, v + 1, true, (log.length : Int), log, [(log.length : Int)], [], [], 0) := by
  unfold replica_Timeout.f
  rw [if_pos (fit_alone log hl _)]
  show some (flat3 (timeoutOf (alone v log))) = _
  rw [alone_timeout v log h0 h1 hl hs]
  rfl
theorem ask_at (v : Int) (log : List ByteArray) (s : ByteArray) (h0 : 0 ≤ v) (h1 : v ≤ 1000000) (hl : log.length < 60) (hs : log.any longB = false) (hz : s.size ≤ 300) :
    replica_Ask.f 0 1 v v true (log.length : Int) log [(log.length : Int)] [] s = some (0, 1, v, v, true, ((log ++ [s]).length : Int), log ++ [s], [((log ++ [s]).length : Int)], [], [], 0) := by
  unfold replica_Ask.f
  rw [if_pos (fit_alone log (by omega) _)]
  show some (flat3 (askOf (alone v log) s)) = _
  rw [alone_ask v log s h0 h1 hl hs hz]
  rfl
theorem alone_asks (l : List ByteArray) (late : Nat) (hl : l.length ≤ 60) (hlate : late ≤ 60) (k i v : Nat) (hv : v ≤ 60) (hs : (l.take i).any longB = false)
    (hnext : (l.take (i + 1)).any longB = false → sextonlaw24_ReplicaAlone.l0 k l (late : Int) ((i + 1 : Nat) : Int) 0 1 (v : Int) (v : Int) true ((l.take (i + 1)).length : Int) (l.take (i + 1)) [((l.take (i + 1)).length : Int)] [] = some true) (hi : i < 100) :
    sextonlaw24_ReplicaAlone.j3 (k + 1) l (late : Int) (i : Int) 0 1 (v : Int) (v : Int) true ((l.take i).length : Int) (l.take i) [((l.take i).length : Int)] [] = some true := by
  simp only [sextonlaw24_ReplicaAlone.j3]
  by_cases h : i < l.length
  · rw [if_pos (by omega), if_pos (by omega), rdS_nat l i h]
    by_cases hz : (l[i].size : Int) > 300
    · rw [if_pos hz]; rfl
    · have hlt : (l.take i).length < 60 := by rw [List.length_take]; omega
      have htk : l.take i ++ [l[i]] = l.take (i + 1) := by rw [List.take_succ_eq_append_getElem h]
      have hln : (l.take (i + 1)).length = i + 1 := by rw [List.length_take]; omega
      have hs2 : (l.take (i + 1)).any longB = false := by
        rw [← htk, List.any_append, hs]
        simp [longB]
        omega
      have hlast : rdOf ByteArray.empty (l.take (i + 1)) (i : Int) = l[i] := by
        rw [rdS_nat _ i (by omega)]
        simp
      have hih := hnext hs2
      rw [hln] at hih
      rw [if_neg hz, ask_at (v : Int) (l.take i) l[i] (by omega) (by omega) hlt hs (by omega), htk, hln]
      rw [Option.bind_some]
      dsimp only
      rw [if_pos rfl, if_neg (by simp), wrap_nat i (by omega), if_pos rfl, hln, if_pos rfl, if_pos (by omega), hlast, if_pos rfl]
      exact hih
  · rw [if_neg (by omega), wrap_nat i (by omega)]
    have e1 : l.take i = l := List.take_of_length_le (by omega)
    have e2 : l.take (i + 1) = l := List.take_of_length_le (by omega)
    have hih := hnext (by rw [e2, ← e1]; exact hs)
    rw [e2] at hih
    rw [e1]
    exact hih
theorem alone_lates (l : List ByteArray) (late : Nat) (hl : l.length ≤ 60) (hlate : late ≤ 60) (k i : Nat) (hs : (l.take i).any longB = false)
    (hnext : ∀ v : Nat, v = min (i + 1) late → sextonlaw24_ReplicaAlone.j3 k l (late : Int) (i : Int) 0 1 (v : Int) (v : Int) true ((l.take i).length : Int) (l.take i) [((l.take i).length : Int)] [] = some true) :
    sextonlaw24_ReplicaAlone.j2 (k + 1) l (late : Int) (i : Int) true 0 1 ((min i late : Nat) : Int) ((min i late : Nat) : Int) true ((l.take i).length : Int) (l.take i) [((l.take i).length : Int)] [] = some true := by
  have hlen : (l.take i).length ≤ 60 := by rw [List.length_take]; omega
  simp only [sextonlaw24_ReplicaAlone.j2]
  rw [if_pos trivial]
  by_cases h : i < late
  · rw [if_pos (by omega), timeout_at ((min i late : Nat) : Int) (l.take i) (by omega) (by omega) hlen hs]
    rw [Option.bind_some]
    dsimp only
    have hw : wrap64 (((min i late : Nat) : Int) + 1) = ((min i late : Nat) : Int) + 1 := by unfold wrap64; omega
    rw [if_pos rfl, if_neg (by simp), if_pos rfl, hw, if_pos rfl, if_pos rfl]
    have hr := hnext (min i late + 1) (by omega)
    have e : ((min i late + 1 : Nat) : Int) = ((min i late : Nat) : Int) + 1 := by omega
    rw [e] at hr
    exact hr
  · rw [if_neg (by omega)]
    exact hnext (min i late) (by omega)
theorem alone_end (l : List ByteArray) (late : Nat) (hl : l.length ≤ 60) (k i : Nat) (h1 : l.length ≤ i) (h2 : late ≤ i) (hk : 61 < k) (b c d e f : Int) (g : Bool) (h : Int) (j : List Int) (m : List S66) :
    sextonlaw24_ReplicaAlone.j2 (k + 1) l (late : Int) (i : Int) false d e ((min i late : Nat) : Int) f g h (l.take i) j m = some true := by
  simp only [sextonlaw24_ReplicaAlone.j2]
  rw [if_neg (by simp)]
  simp only [sextonlaw24_worked.f, Option.bind_some]
  rw [if_pos trivial, if_pos (by omega), List.take_of_length_le (by omega), texts_self l (by omega) k (by omega)]
  rfl
theorem alone_loop (l : List ByteArray) (late : Nat) (hl : l.length ≤ 60) (hlate : late ≤ 60) (d : Nat) : ∀ (k i : Nat), (max l.length late) - i = d → i ≤ max l.length late → (l.take i).any longB = false → 3 * d + 100 < k →
    sextonlaw24_ReplicaAlone.l0 k l (late : Int) (i : Int) 0 1 ((min i late : Nat) : Int) ((min i late : Nat) : Int) true ((l.take i).length : Int) (l.take i) [((l.take i).length : Int)] [] = some true := by
  induction d with
  | zero =>
    intro k i hd hi hs hk
    obtain ⟨k, rfl⟩ : ∃ m, k = m + 1 := ⟨k - 1, by omega⟩
    simp only [sextonlaw24_ReplicaAlone.l0]
    rw [if_neg (by omega), decide_eq_false (by omega)]
    obtain ⟨k, rfl⟩ : ∃ m, k = m + 1 := ⟨k - 1, by omega⟩
    exact alone_end l late hl k i (by omega) (by omega) (by omega) 0 0 _ _ _ _ _ _ _
  | succ d ih =>
    intro k i hd hi hs hk
    obtain ⟨k, rfl⟩ : ∃ m, k = m + 1 := ⟨k - 1, by omega⟩
    have hj2 : sextonlaw24_ReplicaAlone.j2 k l (late : Int) (i : Int) true 0 1 ((min i late : Nat) : Int) ((min i late : Nat) : Int) true ((l.take i).length : Int) (l.take i) [((l.take i).length : Int)] [] = some true := by
      obtain ⟨k, rfl⟩ : ∃ m, k = m + 1 := ⟨k - 1, by omega⟩
      refine alone_lates l late hl hlate k i hs (fun v hv => ?_)
      obtain ⟨k, rfl⟩ : ∃ m, k = m + 1 := ⟨k - 1, by omega⟩
      refine alone_asks l late hl hlate k i v (by omega) hs (fun hs2 => ?_) (by omega)
      rw [hv]
      exact ih k (i + 1) (by omega) (by omega) hs2 (by omega)
    simp only [sextonlaw24_ReplicaAlone.l0]
    by_cases h : i < l.length
    · rw [if_pos (by omega)]
      exact hj2
    · rw [if_neg (by omega), decide_eq_true (by omega)]
      exact hj2
theorem ReplicaAlone : sextonlaw24_ReplicaAlone.Pure := by
  rintro l a ⟨hl, -⟩ -
  obtain ⟨K, hK⟩ : ∃ K : Nat, 1000 < K := ⟨_, Nat.lt_succ_self _⟩
  refine ⟨K + 1, ?_⟩
  have hnew : replica_New.f 0 1 = some (0, 1, 0, 0, true, 0, [], [0], [], 0) := by kernel_rfl
  simp only [sextonlaw24_ReplicaAlone.f, hnew, Option.bind_some]
  rw [if_pos trivial]
  have hw : ∀ b c d e f g h i j, sextonlaw24_ReplicaAlone.j0 (K + 1) l a true b c d e f g h i j = some true := by
    intro b c d e f g h i j
    simp only [sextonlaw24_ReplicaAlone.j0, sextonlaw24_worked.f]
    rw [if_pos trivial]
    rfl
  split
  · exact hw _ _ _ _ _ _ _ _ _
  · split
    · exact hw _ _ _ _ _ _ _ _ _
    · by_cases h : a > 60
      · rw [decide_eq_true h]; exact hw _ _ _ _ _ _ _ _ _
      · rw [decide_eq_false h]
        simp only [sextonlaw24_ReplicaAlone.j0]
        rw [if_neg (by simp)]
        obtain ⟨n, rfl⟩ := Int.eq_ofNat_of_zero_le (show 0 ≤ a by omega)
        have := alone_loop l n (by omega) (by omega) (max l.length n) K 0 (by omega) (by omega) (by simp) (by omega)
        simpa using this
end Go.Proofs.Ytfpfpckocemmdaa.Pure
end
