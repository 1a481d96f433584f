/- Part 9 of the walk. -/
import Derived.Test.YtfpfpckocemmdaaCRight08
section
namespace Go.Proofs.Ytfpfpckocemmdaa.P
open Go.RowKit Go.Proofs.YtfpfpckocemmdaaW.PrintWords Go.Proofs.YtfpfpckocemmdaaW.PrintLast Go.Proofs.YtfpfpckocemmdaaW.PrintMore
set_option linter.unusedVariables false
set_option linter.unusedSimpArgs false
theorem Right.acked {x : Nod} (h : Right x) (m : S28) (h6 : 0 ≤ m.f6) : Right (x.acked m) := by
  refine ⟨h.size, h.id0, h.id1, h.view0, h.view1, h.last0, h.last1, h.works, h.log, ?_, ?_, h.count, h.votes⟩
  · show ((x.acks.set _ _).length : Int) = x.n
    rw [List.length_set]; exact h.acks
  · intro a ha
    change a ∈ x.acks.set m.f1.toNat (max (x.acks.getD m.f1.toNat 0) (min m.f6 (x.log.length : Int))) at ha
    rcases List.mem_or_eq_of_mem_set ha with ha | rfl
    · exact h.each a ha
    · have hg : 0 ≤ x.acks.getD m.f1.toNat 0 ∧ x.acks.getD m.f1.toNat 0 ≤ (x.log.length : Int) := by
        rw [List.getD_eq_getElem?_getD]
        cases hx : x.acks[m.f1.toNat]? with
        | none => exact ⟨Int.le_refl _, by show (0 : Int) ≤ (x.log.length : Int); omega⟩
        | some a => exact h.each a (List.mem_of_getElem? hx)
      refine ⟨by omega, ?_⟩
      show max (x.acks.getD m.f1.toNat 0) (min m.f6 (x.log.length : Int)) ≤ (x.log.length : Int)
      omega
theorem ack_steps {x : Nod} (h : Right x) (ht : x.told = []) (m : S28) (hf : For x m) (hk : m.f0 = 2) (hv : x.view ≤ m.f3) : Steps x m (x.ack m) ∧ (x.ack m).view = x.view := by
  unfold Nod.ack
  split
  · have hr := (h.acked m (msgB_two hf.may hk).1).counts.1
    have hs := counts_same (x.acked m)
    have hto : (x.acked m).counts.told = [] := by rw [hs.2.2.2.2.2.2.2]; exact ht
    split
    · have hft := hr.tell hto
      exact ⟨⟨⟨hft.right, hft.told, hs.1, hs.2.1⟩, by show x.view ≤ (x.acked m).counts.view; rw [hs.2.2.1]; exact Int.le_refl _, by show x.last ≤ (x.acked m).counts.last; rw [hs.2.2.2.1]; exact Int.le_refl _⟩, hs.2.2.1⟩
    · exact ⟨⟨⟨hr, fun a ha => (by rw [hto] at ha; cases ha), hs.1, hs.2.1⟩, by rw [hs.2.2.1]; exact Int.le_refl _, by rw [hs.2.2.2.1]; exact Int.le_refl _⟩, hs.2.2.1⟩
  · exact ⟨⟨Fine.of h ht, Int.le_refl _, Int.le_refl _⟩, rfl⟩
theorem voteOf_ok {x : Nod} {m : S28} (hf : For x m) (hk : m.f0 = 3) (v : Int) (hv : m.f3 ≤ v) : VoteOk x.n v (voteOf m) := by
  have hr := msgB_range hf.may
  have h3 := msgB_three hf.may hk
  have hs := hf.src
  exact ⟨hr.1.1, by show m.f1 ≤ x.n - 1; omega, h3.2.1, by show m.f4 ≤ v; omega, h3.1⟩
theorem voted_steps {y : Nod} (h : Right y) (ht : y.told = []) (m : S28) (hf : For y m) (hk : m.f0 = 3) (hv : m.f3 = y.view) : Fine y (y.votedFor m) ∧ (y.votedFor m).view = y.view ∧ y.last ≤ (y.votedFor m).last := by
  have ha := h.add (voteOf m) (voteOf_ok hf hk y.view (by omega))
  obtain ⟨hb, h1, h2⟩ := ha.begins ht
  exact ⟨⟨hb.right, hb.told, hb.id, hb.n⟩, h1, h2⟩
theorem vote_steps {x : Nod} (h : Right x) (ht : x.told = []) (m : S28) (hf : For x m) (hk : m.f0 = 3) (hv : x.view ≤ m.f3) : Steps x m (x.vote m) ∧ (x.vote m).view ≤ m.f3 := by
  have hr := msgB_range hf.may
  unfold Nod.vote
  split
  · split
    · rename_i hgt
      have hj := h.joins m.f3 hv hr.2.2.2
      obtain ⟨k1, k2, k3⟩ := voted_steps hj (show x.told = [] from ht) m (hf.same rfl rfl) hk rfl
      exact ⟨⟨⟨k1.right, k1.told, k1.id, k1.n⟩, by rw [k2]; exact hv, k3⟩, by rw [k2]; exact Int.le_refl _⟩
    · rename_i hgt
      have he : m.f3 = x.view := by omega
      split
      · exact ⟨⟨(Fine.of h ht).say _ (h.prep m.f1 hr.1.1 hf.src hf.other), Int.le_refl _, Int.le_refl _⟩, hv⟩
      · obtain ⟨k1, k2, k3⟩ := voted_steps h ht m hf hk he
        exact ⟨⟨k1, by rw [k2]; exact Int.le_refl _, k3⟩, by rw [k2]; exact hv⟩
  · exact ⟨⟨Fine.of h ht, Int.le_refl _, Int.le_refl _⟩, hv⟩
theorem step_steps {x : Nod} (h : Right x) (m : S28) (hf : For x m) : Steps x m (stepOf x m) ∧ (x.view ≤ m.f3 → (stepOf x m).view ≤ m.f3) := by
  have ho := h.opened
  have hx : Right x.opened := by rw [ho]; exact h.told _
  have ht : x.opened.told = [] := by rw [ho]
  have hfo : For x.opened m := hf.same (by rw [ho]) (by rw [ho])
  have hid : x.opened.id = x.id := by rw [ho]
  have hn : x.opened.n = x.n := by rw [ho]
  have hvw : x.opened.view = x.view := by rw [ho]
  have hla : x.opened.last = x.last := by rw [ho]
  have conv : ∀ {u : Nod}, Steps x.opened m u → Steps x m u := fun s => ⟨⟨s.fine.right, s.fine.told, s.fine.id.trans hid, s.fine.n.trans hn⟩, by rw [← hvw]; exact s.view, by rw [← hla]; exact s.last⟩
  unfold stepOf
  split
  · rename_i hge
    have hv : x.opened.view ≤ m.f3 := by rw [hvw]; omega
    split
    · rename_i hk
      refine ⟨conv (prepare_steps hx ht m hfo hk hv), fun _ => ?_⟩
      unfold Nod.prepare
      split
      · exact Int.le_of_eq (hx.takes m hf.may hk hv).2.1
      · exact hv
    · split
      · rename_i hk
        obtain ⟨k1, k2⟩ := ack_steps hx ht m hfo hk hv
        exact ⟨conv k1, fun _ => by rw [k2]; exact hv⟩
      · have hk : m.f0 = 3 := by rcases msg_kind hf.may with h | h | h <;> first | exact absurd h ‹_› | exact h
        obtain ⟨k1, k2⟩ := vote_steps hx ht m hfo hk hv
        exact ⟨conv k1, fun _ => k2⟩
  · exact ⟨conv ⟨Fine.of hx ht, Int.le_refl _, Int.le_refl _⟩, fun hv => by rw [hvw]; exact hv⟩
theorem restart_steps {x : Nod} (h : Right x) (ht : x.told = []) : Right x.restart ∧ x.restart.told = [] ∧ x.restart.id = x.id ∧ x.restart.n = x.n ∧ x.restart.view = x.view ∧ x.restart.last = x.last ∧ x.restart.works = x.works ∧ x.restart.log = x.log ∧ x.commit ≤ x.restart.commit := by
  have hc := h.clear.counts
  have hs := counts_same x.clear
  unfold Nod.restart
  split
  · exact ⟨hc.1, by rw [hs.2.2.2.2.2.2.2]; exact ht, hs.1, hs.2.1, hs.2.2.1, hs.2.2.2.1, hs.2.2.2.2.1, hs.2.2.2.2.2.1, hc.2⟩
  · have hv := hc.1.add x.clear.counts.ownVote hc.1.ownVote
    have e : x.clear.counts.votes = [] := hs.2.2.2.2.2.2.1
    rw [e] at hv
    exact ⟨hv, by show x.clear.counts.told = []; rw [hs.2.2.2.2.2.2.2]; exact ht, hs.1, hs.2.1, hs.2.2.1, hs.2.2.2.1, hs.2.2.2.2.1, hs.2.2.2.2.2.1, hc.2⟩
theorem clear_counts_twice (x : Nod) (h1 : x.id.toNat < x.n.toNat) : x.clear.counts.clear.counts = x.clear.counts := by
  by_cases hl : x.leads = true
  · have e : x.clear.counts = { x with acks := ((List.replicate x.n.toNat (0 : Int)).set x.id.toNat (x.log.length : Int)), votes := [], commit := max x.commit (commitOf ((List.replicate x.n.toNat (0 : Int)).set x.id.toNat (x.log.length : Int))) } := if_pos (show x.clear.leads = true from hl)
    have hs := counts_same x.clear
    have hl2 : x.clear.counts.leads = true := by
      show (x.clear.counts.works && (x.clear.counts.view % x.clear.counts.n == x.clear.counts.id)) = true
      rw [hs.2.2.2.2.1, hs.2.2.1, hs.2.1, hs.1]
      exact hl
    have e2 : ∀ y : Nod, y.leads = true → y.clear.counts = { y with acks := ((List.replicate y.n.toNat (0 : Int)).set y.id.toNat (y.log.length : Int)), votes := [], commit := max y.commit (commitOf ((List.replicate y.n.toNat (0 : Int)).set y.id.toNat (y.log.length : Int))) } := fun y hy => if_pos (show y.clear.leads = true from hy)
    rw [e2 x.clear.counts hl2, e]
    have : max (max x.commit (commitOf ((List.replicate x.n.toNat (0 : Int)).set x.id.toNat (x.log.length : Int)))) (commitOf ((List.replicate x.n.toNat (0 : Int)).set x.id.toNat (x.log.length : Int))) = max x.commit (commitOf ((List.replicate x.n.toNat (0 : Int)).set x.id.toNat (x.log.length : Int))) := by omega
    simp only [this]
  · have e : x.clear.counts = x.clear := if_neg (show ¬ x.clear.leads = true from hl)
    rw [e]
    exact if_neg (show ¬ x.clear.clear.leads = true from hl)
theorem restart_twice {x : Nod} (h : Right x) : x.restart.restart = x.restart := by
  have hi0 := h.id0
  have hi1 := h.id1
  have hs := counts_same x.clear
  cases hw : x.works with
  | true =>
    have e : x.restart = x.clear.counts := if_pos hw
    rw [e]
    have e2 : x.clear.counts.restart = x.clear.counts.clear.counts := if_pos (by rw [hs.2.2.2.2.1]; exact hw)
    rw [e2]
    exact clear_counts_twice x (by omega)
  | false =>
    have hl : ¬ x.clear.leads = true := by
      show ¬ (x.works && _) = true
      rw [hw]; simp
    have ec : x.clear.counts = x.clear := if_neg hl
    have e : x.restart = ({ x.clear with votes := [x.clear.ownVote] } : Nod) := by
      have e1 : x.restart = x.waits := if_neg (by rw [hw]; simp)
      rw [e1]
      unfold Nod.waits
      rw [ec]
      rfl
    rw [e]
    have e3 : Nod.restart ({ x.clear with votes := [x.clear.ownVote] } : Nod) = Nod.waits ({ x.clear with votes := [x.clear.ownVote] } : Nod) := if_neg (by show ¬ x.works = true; rw [hw]; simp)
    rw [e3]
    unfold Nod.waits
    have e4 : (({ x.clear with votes := [x.clear.ownVote] } : Nod).clear.counts) = x.clear := if_neg (by show ¬ (x.works && _) = true; rw [hw]; simp)
    rw [e4]
    rfl
end Go.Proofs.Ytfpfpckocemmdaa.P
end
section
set_option linter.unusedVariables false
set_option linter.unusedSimpArgs false
namespace Go.Proofs.Ytfpfpckocemmdaa.Spec
open Go.RowKit Go.Proofs.YtfpfpckocemmdaaW.PrintWords Go.Proofs.YtfpfpckocemmdaaW.PrintLast Go.Proofs.YtfpfpckocemmdaaW.PrintMore Go.Proofs.Ytfpfpckocemmdaa.P
theorem wrap_nat (i : Nat) (h : i < 9223372036854775807) : wrap64 ((i : Int) + 1) = ((i + 1 : Nat) : Int) := by unfold wrap64; omega
theorem rd66_nat (l : List S66) (i : Nat) (h : i < l.length) : rd_T66 l (i : Int) = l[i] := by
  unfold rd_T66
  simp [List.getD_eq_getElem?_getD, List.getElem?_eq_getElem h]
theorem rdS_nat (l : List ByteArray) (i : Nat) (h : i < l.length) : rdOf ByteArray.empty l (i : Int) = l[i] := by
  unfold rdOf
  simp [List.getD_eq_getElem?_getD, List.getElem?_eq_getElem h]
theorem texts_loop (a : List ByteArray) (hm : a.length ≤ 9223372036854775807) (d : Nat) : ∀ (k i : Nat), a.length - i = d → i ≤ a.length → d < k → sextonref01_Texts.l0 k a a (i : Int) = some true := by
  induction d with
  | zero =>
    intro k i hd hi hk
    obtain ⟨k, rfl⟩ : ∃ m, k = m + 1 := ⟨k - 1, by omega⟩
    simp only [sextonref01_Texts.l0]
    rw [if_neg (by omega)]
  | succ d ih =>
    intro k i hd hi hk
    obtain ⟨k, rfl⟩ : ∃ m, k = m + 1 := ⟨k - 1, by omega⟩
    simp only [sextonref01_Texts.l0]
    rw [if_pos (by omega), if_pos (by omega), if_pos (by omega), if_pos trivial, wrap_nat i (by omega), ih k (i + 1) (by omega) (by omega) (by omega)]
theorem texts_self (a : List ByteArray) (hm : a.length ≤ 9223372036854775807) (k : Nat) (hk : a.length < k) : sextonref01_Texts.f k a a = some true := by
  simp only [sextonref01_Texts.f]
  rw [if_pos trivial]
  exact texts_loop a hm a.length k 0 (by omega) (by omega) hk
theorem short_loop (a : List ByteArray) (hm : a.length ≤ 9223372036854775807) (d : Nat) : ∀ (k i : Nat), a.length - i = d → i ≤ a.length → d < k → sextonref01_Short.l0 k a (i : Int) = some ((a.drop i).all fun s => decide ((s.size : Int) ≤ 300)) := by
  induction d with
  | zero =>
    intro k i hd hi hk
    obtain ⟨k, rfl⟩ : ∃ m, k = m + 1 := ⟨k - 1, by omega⟩
    simp only [sextonref01_Short.l0]
    rw [if_neg (by omega), List.drop_eq_nil_of_le (by omega)]
    rfl
  | succ d ih =>
    intro k i hd hi hk
    obtain ⟨k, rfl⟩ : ∃ m, k = m + 1 := ⟨k - 1, by omega⟩
    have hi' : i < a.length := by omega
    simp only [sextonref01_Short.l0]
    rw [if_pos (by omega), if_pos (by omega), rdS_nat a i hi', wrap_nat i (by omega), ih k (i + 1) (by omega) (by omega) (by omega), List.drop_eq_getElem_cons hi', List.all_cons]
    by_cases h : (a[i].size : Int) > 300
    · rw [if_pos h, decide_eq_false (by omega)]; rfl
    · rw [if_neg h, decide_eq_true (by omega)]; rfl
theorem short_of (a : List ByteArray) (hm : a.length ≤ 9223372036854775807) (k : Nat) (hk : a.length < k) : sextonref01_Short.f k a = some (a.all fun s => decide ((s.size : Int) ≤ 300)) := by
  simp only [sextonref01_Short.f]
  exact short_loop a hm a.length k 0 (by omega) (by omega) hk
def bigV (v : S66) : Bool := !(v.f3.all fun s => decide ((s.size : Int) ≤ 300)) || decide ((v.f3.length : Int) > 70)
def bigVs (a : List S66) : Bool := if (a.length : Int) ≤ 30 then a.any bigV else true
theorem big22_loop (a : List S66) (hm : a.length ≤ 30) (B : Nat) (hB : B ≤ 9223372036854775807) (hv : ∀ v, v ∈ a → v.f3.length ≤ B) (d : Nat) : ∀ (k i : Nat), a.length - i = d → i ≤ a.length → 2 * d + B + 2 < k → sextonref22_Big.l0 k a (i : Int) = some ((a.drop i).any bigV) := by
  induction d with
  | zero =>
    intro k i hd hi hk
    obtain ⟨k, rfl⟩ : ∃ m, k = m + 2 := ⟨k - 2, by omega⟩
    simp only [sextonref22_Big.l0]
    rw [if_neg (by omega), List.drop_eq_nil_of_le (by omega)]
    simp only [sextonref22_Big.j1]
    rw [if_neg (by simp), decide_eq_false (by omega)]
    rfl
  | succ d ih =>
    intro k i hd hi hk
    obtain ⟨k, rfl⟩ : ∃ m, k = m + 1 := ⟨k - 1, by omega⟩
    have hi' : i < a.length := by omega
    have hl := hv _ (List.getElem_mem hi')
    simp only [sextonref22_Big.l0]
    rw [if_pos (by omega), decide_eq_true (by omega)]
    obtain ⟨k, rfl⟩ : ∃ m, k = m + 1 := ⟨k - 1, by omega⟩
    simp only [sextonref22_Big.j1]
    rw [if_pos trivial, if_pos (by omega), if_pos (by omega), rd66_nat a i hi', short_of _ (by omega) k (by omega), wrap_nat i (by omega), ih k (i + 1) (by omega) (by omega) (by omega), List.drop_eq_getElem_cons hi', List.any_cons]
    simp only [Option.bind_some]
    cases hs : a[i].f3.all (fun s => decide ((s.size : Int) ≤ 300)) with
    | false =>
      rw [if_neg (by simp)]
      simp [bigV, hs]
    | true =>
      rw [if_pos rfl]
      by_cases h : (a[i].f3.length : Int) > 70
      · rw [if_pos h]; simp only [bigV, hs, decide_eq_true h]; rfl
      · rw [if_neg h]; simp only [bigV, hs, decide_eq_false h]; rfl
theorem big22_of (a : List S66) (hm : a.length ≤ 9223372036854775807) (B : Nat) (hB : B ≤ 9223372036854775807) (hv : ∀ v, v ∈ a → v.f3.length ≤ B) (k : Nat) (hk : 64 + B < k) : sextonref22_Big.f k a = some (bigVs a) := by
  simp only [sextonref22_Big.f]
  unfold bigVs
  by_cases h : (a.length : Int) ≤ 30
  · rw [if_pos h]
    exact big22_loop a (by omega) B hB hv a.length k 0 (by omega) (by omega) (by omega)
  · rw [if_neg h]
    obtain ⟨k, rfl⟩ : ∃ m, k = m + 2 := ⟨k - 2, by omega⟩
    simp only [sextonref22_Big.l0]
    rw [if_pos (by omega), decide_eq_false (by omega)]
    simp only [sextonref22_Big.j1]
    rw [if_neg (by simp), decide_eq_true (by omega)]
def bigM (l : List ByteArray) : Bool := if (l.length : Int) ≤ 80 then l.any (fun s => decide ((s.size : Int) > 400)) else true
theorem big23_loop (a0 a1 a2 a3 a4 a5 a6 : Int) (a : List ByteArray) (hm : a.length ≤ 80) (d : Nat) : ∀ (k i : Nat), a.length - i = d → i ≤ a.length → 2 * d + 2 < k → sextonref23_Big.l0 k (i : Int) a0 a1 a2 a3 a4 a5 a6 a = some ((a.drop i).any fun s => decide ((s.size : Int) > 400)) := by
  induction d with
  | zero =>
    intro k i hd hi hk
    obtain ⟨k, rfl⟩ : ∃ m, k = m + 2 := ⟨k - 2, by omega⟩
    simp only [sextonref23_Big.l0]
    rw [if_neg (by omega), List.drop_eq_nil_of_le (by omega)]
    simp only [sextonref23_Big.j1]
    rw [if_neg (by simp), decide_eq_false (by omega)]
    rfl
  | succ d ih =>
    intro k i hd hi hk
    obtain ⟨k, rfl⟩ : ∃ m, k = m + 1 := ⟨k - 1, by omega⟩
    have hi' : i < a.length := by omega
    simp only [sextonref23_Big.l0]
    rw [if_pos (by omega), decide_eq_true (by omega)]
    obtain ⟨k, rfl⟩ : ∃ m, k = m + 1 := ⟨k - 1, by omega⟩
    simp only [sextonref23_Big.j1]
    rw [if_pos trivial, if_pos (by omega), if_pos (by omega), rdS_nat a i hi', wrap_nat i (by omega), ih k (i + 1) (by omega) (by omega) (by omega), List.drop_eq_getElem_cons hi', List.any_cons]
    by_cases h : (a[i].size : Int) > 400
    · rw [if_pos h, decide_eq_true h]; rfl
    · rw [if_neg h, decide_eq_false h]; rfl
theorem big23_of (a0 a1 a2 a3 a4 a5 a6 : Int) (a : List ByteArray) (k : Nat) (hk : 170 < k) : sextonref23_Big.f k a0 a1 a2 a3 a4 a5 a6 a = some (bigM a) := by
  simp only [sextonref23_Big.f]
  unfold bigM
  by_cases h : (a.length : Int) ≤ 80
  · rw [if_pos h]
    exact big23_loop a0 a1 a2 a3 a4 a5 a6 a (by omega) a.length k 0 (by omega) (by omega) (by omega)
  · rw [if_neg h]
    obtain ⟨k, rfl⟩ : ∃ m, k = m + 2 := ⟨k - 2, by omega⟩
    simp only [sextonref23_Big.l0]
    rw [if_pos (by omega), decide_eq_false (by omega)]
    simp only [sextonref23_Big.j1]
    rw [if_neg (by simp), decide_eq_true (by omega)]
def farB (l6 : List ByteArray) (l7 : List Int) (l8 : List S66) (m7 : List ByteArray) (s : ByteArray) : Bool := bigVs [⟨0, 0, 0, l6⟩] || (bigVs l8 || (decide ((l7.length : Int) > 30) || (bigM m7 || decide ((s.size : Int) > 400))))
theorem far_of (a0 a1 a2 a3 : Int) (a4 : Bool) (a5 : Int) (l6 : List ByteArray) (l7 : List Int) (l8 : List S66) (b0 b1 b2 b3 b4 b5 b6 : Int) (m7 : List ByteArray) (s : ByteArray) (B : Nat) (hB : B ≤ 9223372036854775807) (h6 : l6.length ≤ B) (h8 : l8.length ≤ 9223372036854775807) (hv : ∀ v, v ∈ l8 → v.f3.length ≤ B) (k : Nat) (hk : 171 + B < k) :
    sextonlaw24_far.f k a0 a1 a2 a3 a4 a5 l6 l7 l8 b0 b1 b2 b3 b4 b5 b6 m7 s = some (farB l6 l7 l8 m7 s) := by
  have e1 : sextonref22_Big.f k [⟨0, 0, 0, l6⟩] = some (bigVs [⟨0, 0, 0, l6⟩]) := big22_of _ (by simp) B hB (by intro v hv; simp at hv; subst hv; exact h6) k (by omega)
  have e2 := big22_of l8 h8 B hB hv k (by omega)
  have e3 := big23_of b0 b1 b2 b3 b4 b5 b6 m7 k (by omega)
  simp only [sextonlaw24_far.f, sextonref24_Big.f, e1, e2, e3, Option.bind_some]
  unfold farB
  cases bigVs [⟨0, 0, 0, l6⟩] with
  | true => simp
  | false =>
    cases bigVs l8 with
    | true => simp
    | false =>
      by_cases h7 : (l7.length : Int) > 30
      · simp [h7]
      · cases bigM m7 <;> simp [h7]
structure Small (l6 : List ByteArray) (l7 : List Int) (l8 : List S66) (m7 : List ByteArray) (s : ByteArray) : Prop where
  log : l6.length ≤ 70
  acks : l7.length ≤ 30
  votes : l8.length ≤ 30
  each : ∀ v, v ∈ l8 → v.f3.length ≤ 70
  msg : m7.length ≤ 80
  text : s.size ≤ 400
theorem bigVs_not {a : List S66} (h : bigVs a = false) : a.length ≤ 30 ∧ ∀ v, v ∈ a → v.f3.length ≤ 70 := by
  unfold bigVs at h
  split at h
  · refine ⟨by omega, fun v hv => ?_⟩
    have h2 := List.any_eq_false.1 h v hv
    simp only [bigV, Bool.or_eq_true, decide_eq_true_eq, not_or] at h2
    omega
  · cases h
theorem far_not {l6 : List ByteArray} {l7 : List Int} {l8 : List S66} {m7 : List ByteArray} {s : ByteArray} (h : farB l6 l7 l8 m7 s = false) : Small l6 l7 l8 m7 s := by
  unfold farB at h
  simp only [Bool.or_eq_false_iff, decide_eq_false_iff_not] at h
  obtain ⟨h1, h2, h3, h4, h5⟩ := h
  have k1 := (bigVs_not h1).2 ⟨0, 0, 0, l6⟩ (by simp)
  have k2 := bigVs_not h2
  refine ⟨k1, by omega, k2.1, k2.2, ?_, by omega⟩
  unfold bigM at h4
  split at h4
  · omega
  · cases h4
theorem Small.fits {l6 : List ByteArray} {l7 : List Int} {l8 : List S66} {m7 : List ByteArray} {s : ByteArray} (h : Small l6 l7 l8 m7 s) (hw : ∀ v, v ∈ l8 → (Lit.int .i64 v.f0).wf = true) : fitB l6 l7 l8 = true := by
  unfold fitB
  have h1 := h.log
  have h2 := h.acks
  have h3 := h.votes
  simp only [Bool.and_eq_true, decide_eq_true_eq, List.all_eq_true]
  exact ⟨⟨⟨by omega, by omega⟩, by omega⟩, fun v hv => ⟨by have := h.each v hv; omega, hw v hv⟩⟩
end Go.Proofs.Ytfpfpckocemmdaa.Spec
end
section
namespace Go.Proofs.Ytfpfpckocemmdaa.P
open Go.RowKit Go.Proofs.YtfpfpckocemmdaaW.PrintWords Go.Proofs.YtfpfpckocemmdaaW.PrintLast Go.Proofs.YtfpfpckocemmdaaW.PrintMore Go.Proofs.Ytfpfpckocemmdaa.Spec
set_option linter.unusedVariables false
set_option linter.unusedSimpArgs false
theorem restart_ok {x : Nod} (h : Right x) : restartOf x = (x.opened.restart, 0) := if_pos (is_of h)
theorem handle_ok {x : Nod} {m : S28} (h : Right x) (hf : For x m) : handleOf x m = (stepOf x m, 0) := if_pos ⟨is_of h, (for_iff x m).2 hf⟩
theorem handle_bad {x : Nod} {m : S28} (h : ¬ (isB x = true ∧ okMsg x m = true)) : handleOf x m = (zeroNod, 1) := if_neg h
theorem restart_facts {x : Nod} (h : Right x) : ∃ a : Nod, restartOf x = (a, 0) ∧ restartOf a = (a, 0) ∧ Right a ∧ a.id = x.id ∧ a.n = x.n ∧ a.view = x.view ∧ a.last = x.last ∧ a.works = x.works ∧ a.log = x.log ∧ x.commit ≤ a.commit := by
  have ho := h.opened
  have hx : Right x.opened := by rw [ho]; exact h.told _
  obtain ⟨k1, k2, k3, k4, k5, k6, k7, k8, k9⟩ := restart_steps hx (by rw [ho])
  have e2 : x.opened.restart.opened = x.opened.restart := by
    rw [k1.opened]
    have : ({ x.opened.restart with told := x.opened.restart.told } : Nod) = x.opened.restart := rfl
    rw [k2] at this
    exact this
  refine ⟨x.opened.restart, restart_ok h, ?_, k1, ?_, ?_, ?_, ?_, ?_, ?_, ?_⟩
  · rw [restart_ok k1, e2, restart_twice hx]
  · rw [k3, ho]
  · rw [k4, ho]
  · rw [k5, ho]
  · rw [k6, ho]
  · rw [k7, ho]
  · rw [k8, ho]
  · have : x.opened.commit = x.commit := by rw [ho]
    rw [← this]; exact k9
end Go.Proofs.Ytfpfpckocemmdaa.P
end
section
namespace Go.Proofs.Ytfpfpckocemmdaa.P
open Go.RowKit Go.Proofs.YtfpfpckocemmdaaW.PrintWords Go.Proofs.YtfpfpckocemmdaaW.PrintLast Go.Proofs.YtfpfpckocemmdaaW.PrintMore Go.Proofs.Ytfpfpckocemmdaa.Spec
set_option linter.unusedVariables false
set_option linter.unusedSimpArgs false
theorem tells_few (x : Nod) (ht : x.told = []) (hn : x.n ≤ 7) : x.tell.told.length ≤ 7 := by
  show (x.told ++ x.upto x.n.toNat).length ≤ 7
  rw [ht, List.nil_append]
  have := x.upto_le x.n.toNat
  omega
theorem begins_few (x : Nod) (ht : x.told = []) (hn : x.n ≤ 7) : x.begin_.told.length ≤ 7 := by
  unfold Nod.begin_
  split
  · have hs := counts_same x.rise.clear
    exact tells_few _ (by rw [hs.2.2.2.2.2.2.2]; exact ht) (by rw [hs.2.1]; exact hn)
  · rw [ht]; simp
theorem says_few (x : Nod) (m : S28) (h : x.told.length ≤ 7) : (x.say m).told.length ≤ 8 := by
  show (x.told ++ [m]).length ≤ 8
  rw [List.length_append]; simp; omega
theorem lates_few {x : Nod} (h : Right x) : (lateOf x).told.length ≤ 8 := by
  have ho := h.opened
  have hb := begins_few (x.opened.joins (x.view + 1)) (by rw [ho]; rfl) (by rw [ho]; exact h.n7.2)
  unfold lateOf
  split
  · omega
  · exact says_few _ _ hb
theorem prepares_few {x : Nod} (ht : x.told = []) (m : S28) : (x.prepare m).told.length ≤ 8 := by
  unfold Nod.prepare
  split
  · refine says_few _ _ ?_
    have : ((x.takes m).settle m).told = x.told := by
      unfold Nod.takes
      split
      · rfl
      · split <;> rfl
    rw [this, ht]; simp
  · rw [ht]; simp
theorem acks_few {x : Nod} (h : Right x) (ht : x.told = []) (m : S28) : (x.ack m).told.length ≤ 8 := by
  unfold Nod.ack
  have hs := counts_same (x.acked m)
  have hto : (x.acked m).counts.told = [] := by rw [hs.2.2.2.2.2.2.2]; exact ht
  split
  · split
    · have := tells_few (x.acked m).counts hto (by rw [hs.2.1]; exact h.n7.2)
      omega
    · rw [hto]; simp
  · rw [ht]; simp
theorem votes_few {x : Nod} (h : Right x) (ht : x.told = []) (m : S28) : (x.vote m).told.length ≤ 8 := by
  unfold Nod.vote
  split
  · split
    · have := begins_few ({ x.joins m.f3 with votes := addTo (x.joins m.f3).votes (voteOf m) } : Nod) ht h.n7.2
      exact Nat.le_trans this (by omega)
    · split
      · exact says_few _ _ (by rw [ht]; simp)
      · have := begins_few ({ x with votes := addTo x.votes (voteOf m) } : Nod) ht h.n7.2
        exact Nat.le_trans this (by omega)
  · rw [ht]; simp
theorem steps_few {x : Nod} (h : Right x) (m : S28) : (stepOf x m).told.length ≤ 8 := by
  have ho := h.opened
  have hx : Right x.opened := by rw [ho]; exact h.told _
  have ht : x.opened.told = [] := by rw [ho]
  unfold stepOf
  split
  · split
    · exact prepares_few ht m
    · split
      · exact acks_few hx ht m
      · exact votes_few hx ht m
  · rw [ht]; simp
theorem Fine.came {x u : Nod} (h : Fine x u) (hf : u.told.length ≤ 8) : Came u := ⟨is_of h.right, h.told, by omega⟩
theorem ask_facts {x : Nod} (h : Right x) (s : ByteArray) : ∃ a e, askOf x s = (a, e) ∧ Fits a ∧ ((e == 0) = false ∨ (e = 0 ∧ Came a ∧ a.view = x.view ∧ a.log.length = x.log.length + 1 ∧ ¬ a.commit < x.commit)) := by
  have ho := h.opened
  have hx : Right x.opened := by rw [ho]; exact h.told _
  have ht : x.opened.told = [] := by rw [ho]
  unfold askOf
  rw [if_pos (is_of h)]
  split
  · split
    · exact ⟨_, _, rfl, fits_zero, .inl rfl⟩
    · rename_i hc
      have hl := h.len.1
      obtain ⟨k1, k2, k3, k4⟩ := hx.asks ht s (by rw [ho]; show x.log.length < 60; omega) (by omega)
      have hs := counts_same (x.opened.logs s)
      have hfew := tells_few (x.opened.logs s).counts (by rw [hs.2.2.2.2.2.2.2]; exact ht) (by rw [hs.2.1, ho]; exact h.n7.2)
      refine ⟨_, _, rfl, k1.right.fits, .inr ⟨rfl, k1.came (by omega), by rw [k2, ho], by rw [k3, List.length_append, ho]; rfl, ?_⟩⟩
      have : x.opened.commit = x.commit := by rw [ho]
      omega
  · exact ⟨_, _, rfl, fits_zero, .inl rfl⟩
theorem late_facts {x : Nod} (h : Right x) : ∃ c g, timeoutOf x = (c, g) ∧ Fits c ∧ ((g == 0) = false ∨ (g = 0 ∧ Came c ∧ c.view = x.view + 1 ∧ ¬ c.last < x.last)) := by
  have hv1 := h.view1
  unfold timeoutOf
  rw [if_pos (is_of h)]
  split
  · exact ⟨_, _, rfl, fits_zero, .inl rfl⟩
  · obtain ⟨k1, k2, k3⟩ := h.late (by omega)
    exact ⟨_, _, rfl, k1.right.fits, .inr ⟨rfl, k1.came (lates_few h), k2, by omega⟩⟩
theorem handle_facts {x : Nod} (h : Right x) (m : S28) : ∃ u i, handleOf x m = (u, i) ∧ Fits u ∧ ((i == 0) = false ∨ (i = 0 ∧ Came u ∧ ¬ u.view < x.view ∧ ¬ u.last < x.last)) := by
  by_cases hok : okMsg x m = true
  · have hf := (for_iff x m).1 hok
    obtain ⟨k1, -⟩ := step_steps h m hf
    have h1 := k1.view
    have h2 := k1.last
    exact ⟨_, _, handle_ok h hf, k1.fine.right.fits, .inr ⟨rfl, k1.fine.came (steps_few h m), by omega, by omega⟩⟩
  · exact ⟨_, _, handle_bad (fun h => hok h.2), fits_zero, .inl rfl⟩
theorem right_law (x0 : S26) (m : S28) (s : ByteArray) (b0 : B26 x0) (b1 : B28 m) (b2 : s.size ≤ maxLen) (A6 A7 A8 A : Option Addr) (c6 c7 c8 c : Nat) (w : World) (h6 : Kd.C Kd.string w A6 x0.f6.length x0.f6) (l6 : x0.f6.length ≤ c6) (h7 : Kd.C (Kd.int .i64) w A7 x0.f7.length x0.f7) (l7 : x0.f7.length ≤ c7) (h8 : Kd.C k66 w A8 x0.f8.length x0.f8) (l8 : x0.f8.length ≤ c8) (hm : Kd.C Kd.string w A m.f7.length m.f7) (lm : m.f7.length ≤ c) :
    Calls Try.prog 5 #[.agg #[.int .i64 x0.f0, .int .i64 x0.f1, .int .i64 x0.f2, .int .i64 x0.f3, .bool x0.f4, .int .i64 x0.f5, .slice A6 x0.f6.length c6, .slice A7 x0.f7.length c7, .slice A8 x0.f8.length c8], .agg #[.int .i64 m.f0, .int .i64 m.f1, .int .i64 m.f2, .int .i64 m.f3, .int .i64 m.f4, .int .i64 m.f5, .int .i64 m.f6, .slice A m.f7.length c], .string s] w fun e w' => e = .returned (.bool true) ∧ Below w.heap.size w w' := by
  obtain ⟨x0, x1, x2, x3, x4, x5, x6, x7, x8⟩ := x0
  obtain ⟨-, -, -, -, -, -, g6, g7, g8⟩ := b0
  simp only at g6 g7 g8 h6 l6 h7 l7 h8 l8
  obtain ⟨K, hK⟩ : ∃ K : Nat, 9223372036854777000 < K := ⟨_, Nat.lt_succ_self _⟩
  have hfar := far_of x0 x1 x2 x3 x4 x5 x6 x7 x8 m.f0 m.f1 m.f2 m.f3 m.f4 m.f5 m.f6 m.f7 s 9223372036854775807 (Nat.le_refl _) g6.1 g8.1 (fun v hv => (g8.2 v hv).2.2.2.1) K (by omega)
  cases hf : farB x6 x7 x8 m.f7 s with
  | true =>
    rw [hf] at hfar
    exact right_far ⟨x0, x1, x2, x3, x4, x5, x6, x7, x8, []⟩ m s A6 A7 A8 A c6 c7 c8 c w h6 l6 h7 l7 h8 l8 hm lm K hfar
  | false =>
    rw [hf] at hfar
    have hfit := (far_not hf).fits (fun v hv => (g8.2 v hv).1)
    have harg : Arg w ⟨x0, x1, x2, x3, x4, x5, x6, x7, x8, []⟩ A6 A7 A8 c6 c7 c8 := arg_of h6 l6 h7 l7 h8 l8 hfit
    cases hR : isB ⟨x0, x1, x2, x3, x4, x5, x6, x7, x8, []⟩ with
    | false => exact right_not ⟨x0, x1, x2, x3, x4, x5, x6, x7, x8, []⟩ m s A6 A7 A8 A c6 c7 c8 c w harg hm lm K hfar hR
    | true =>
      have hr := right_of hR
      obtain ⟨a, e, ha, fa, hea⟩ := ask_facts hr s
      obtain ⟨cc, g, hc, fc, hec⟩ := late_facts hr
      obtain ⟨u, i, hu, fu, heu⟩ := handle_facts hr m
      obtain ⟨y, hy1, -, hry, -, -, hv, hl, hw, hlog, hcm⟩ := restart_facts hr
      have htx : sextonref01_Texts.f K y.log x6 = some true := by
        have : y.log = x6 := hlog
        rw [this]
        exact texts_self x6 (by have := g6.1; omega) K (by have := (far_not hf).log; omega)
      exact right_walk ⟨x0, x1, x2, x3, x4, x5, x6, x7, x8, []⟩ a cc u y e g i m s A6 A7 A8 A c6 c7 c8 c w harg hm lm K hfar hR ha hc hu hy1 fa fc fu hry.fits hea hec heu ⟨is_of hry, hv, hl, hw, hcm⟩ htx ⟨hr.view0, hr.view1, hr.len.1⟩
end Go.Proofs.Ytfpfpckocemmdaa.P
end
