/- Part 5 of the walk. -/
import Derived.Test.YtfpfpckocemmdaaCAgain04
import Derived.Tactics2
import Derived.Defers
import Derived.Recover
section
namespace Go.Proofs.Ytfpfpckocemmdaa.P
open Go.RowKit Go.Proofs.YtfpfpckocemmdaaW.PrintWords Go.Proofs.YtfpfpckocemmdaaW.PrintLast Go.Proofs.YtfpfpckocemmdaaW.PrintMore
set_option linter.unusedVariables false
set_option linter.unusedSimpArgs false
def Inv2 (D : DataW Unit) (seen : List Int) : Prop := ∀ c : Int, D.atKey (.int .i64 c) (.lit (.bool false)) = .lit (.bool (seen.contains c))
theorem inv2_put {w : World} {b n : Nat} {D : DataW Unit} {seen : List Int} (ho : w.ownsMap Try.prog 3 (plainElem Try.prog 4) b n D) (h : Inv2 D seen) (c : Int) : Inv2 (D.put (.int .i64 c) (.lit (.bool true))) (c :: seen) := by
  have hk : WideAt.IsKeyLit (.int .i64 c) := trivial
  intro c'
  by_cases he : c' = c
  · subst he
    rw [Maps.atKey_put_same ho.isMap hk]
    simp
  · rw [Maps.atKey_put_other (by simpa using he), h c']
    simp [he]
theorem plain_bool {v : Value} {b : Bool} {ps : List MemPlace} (h : plainElem (H := Unit) Try.prog 4 v = some (.lit (.bool b), ps)) : v = .bool b := by
  unfold plainElem at h
  have h4 := Try.underlying4
  generalize Try.prog.underlying 4 = u at h h4
  subst h4
  cases v <;> simp at h
  rw [h.1]
theorem look2 {W : World} {b n : Nat} {D : DataW Unit} {seen : List Int} (ho : W.ownsMap Try.prog 3 (plainElem Try.prog 4) b n D) (h : Inv2 D seen) (c : Int) (hkey : keyOf Try.prog 3 (.int .i64 c) = some (.int .i64 c)) :
    (Instr.lookup 69 (.map (some b)) (.int .i64 c) false).run Try.prog W = .ok (.bool (seen.contains c)) W := by
  obtain ⟨v, ps, hrun, hv⟩ := ho.lookup (Maps.int_keyed Try.underlying3) Try.underlying69 (z := .bool false) (by kernel_rfl) (plainElem_bool Try.underlying4 false) hkey
  rw [h c] at hv
  rw [hrun, plain_bool hv]
theorem ownsMap_below {w w1 : World} {b n : Nat} {D : DataW Unit} (h : w.ownsMap Try.prog 3 (plainElem Try.prog 4) b n D) (hb : Below w.heap.size w w1) : w1.ownsMap Try.prog 3 (plainElem Try.prog 4) b n D :=
  h.kept (row := none) ⟨hb.os, hb.tape, hb.output, hb.size, fun k hk _ => hb.block k hk⟩ (by simp)
set_option maxHeartbeats 8000000 in
set_option maxRecDepth 100000 in
theorem is_calls (id n view last : Int) (works : Bool) (commit : Int) (log : List ByteArray) (acks : List Int) (votes : List S66) (told : List S28) (A6 A7 A8 : Option Addr) (c6 c7 c8 : Nat) (w : World) (h6 : Kd.C Kd.string w A6 log.length log) (l6 : log.length ≤ c6) (h7 : Kd.C (Kd.int .i64) w A7 acks.length acks) (l7 : acks.length ≤ c7) (h8 : Kd.C k66 w A8 votes.length votes) (l8 : votes.length ≤ c8)
    (hl : log.length < 4398046511104) (ha : acks.length < 4398046511104) (hvl : votes.length < 4398046511104) (hv : ∀ v, v ∈ votes → v.f3.length < 4398046511104 ∧ (Lit.int .i64 v.f0).wf = true) :
    Calls Try.prog 15 #[.agg #[.int .i64 id, .int .i64 n, .int .i64 view, .int .i64 last, .bool works, .int .i64 commit, .slice A6 log.length c6, .slice A7 acks.length c7, .slice A8 votes.length c8]] w fun e w' => e = .returned (.bool (isB ⟨id, n, view, last, works, commit, log, acks, votes, told⟩)) ∧ Below w.heap.size w w' := by
  have hu26 := Try.underlying26
  have hu66 := Try.underlying66
  have H6 := Aside0.mk h6
  have H7 := Aside0.mk h7
  have H8 := Aside0.mk h8
  have L6 := Aside0.mk l6
  have L7 := Aside0.mk l7
  have L8 := Aside0.mk l8
  have HL := Aside0.mk hl
  have HA := Aside0.mk ha
  have HVL := Aside0.mk hvl
  have HVV := Aside0.mk hv
  have HBX := Aside0.mk (x_alloc_new w (.cells #[.int .i64 id, .int .i64 n, .int .i64 view, .int .i64 last, .bool works, .int .i64 commit, .slice A6 log.length c6, .slice A7 acks.length c7, .slice A8 votes.length c8] 26))
  clear h6 h7 h8 l6 l7 l8 hl ha hvl hv
  have hx0 : (w.alloc (.cells #[.int .i64 id, .int .i64 n, .int .i64 view, .int .i64 last, .bool works, .int .i64 commit, .slice A6 log.length c6, .slice A7 acks.length c7, .slice A8 votes.length c8] 26)).cell? ⟨w.heap.size, 0, none⟩ = some (.int .i64 id) := blk_cell HBX.out 0
  have hx1 : (w.alloc (.cells #[.int .i64 id, .int .i64 n, .int .i64 view, .int .i64 last, .bool works, .int .i64 commit, .slice A6 log.length c6, .slice A7 acks.length c7, .slice A8 votes.length c8] 26)).cell? ⟨w.heap.size, 1, none⟩ = some (.int .i64 n) := blk_cell HBX.out 1
  have hx2 : (w.alloc (.cells #[.int .i64 id, .int .i64 n, .int .i64 view, .int .i64 last, .bool works, .int .i64 commit, .slice A6 log.length c6, .slice A7 acks.length c7, .slice A8 votes.length c8] 26)).cell? ⟨w.heap.size, 2, none⟩ = some (.int .i64 view) := blk_cell HBX.out 2
  have hx3 : (w.alloc (.cells #[.int .i64 id, .int .i64 n, .int .i64 view, .int .i64 last, .bool works, .int .i64 commit, .slice A6 log.length c6, .slice A7 acks.length c7, .slice A8 votes.length c8] 26)).cell? ⟨w.heap.size, 3, none⟩ = some (.int .i64 last) := blk_cell HBX.out 3
  have hx4 : (w.alloc (.cells #[.int .i64 id, .int .i64 n, .int .i64 view, .int .i64 last, .bool works, .int .i64 commit, .slice A6 log.length c6, .slice A7 acks.length c7, .slice A8 votes.length c8] 26)).cell? ⟨w.heap.size, 4, none⟩ = some (.bool works) := blk_cell HBX.out 4
  have hx5 : (w.alloc (.cells #[.int .i64 id, .int .i64 n, .int .i64 view, .int .i64 last, .bool works, .int .i64 commit, .slice A6 log.length c6, .slice A7 acks.length c7, .slice A8 votes.length c8] 26)).cell? ⟨w.heap.size, 5, none⟩ = some (.int .i64 commit) := blk_cell HBX.out 5
  have hx6 : (w.alloc (.cells #[.int .i64 id, .int .i64 n, .int .i64 view, .int .i64 last, .bool works, .int .i64 commit, .slice A6 log.length c6, .slice A7 acks.length c7, .slice A8 votes.length c8] 26)).cell? ⟨w.heap.size, 6, none⟩ = some (.slice A6 log.length c6) := blk_cell HBX.out 6
  have hx7 : (w.alloc (.cells #[.int .i64 id, .int .i64 n, .int .i64 view, .int .i64 last, .bool works, .int .i64 commit, .slice A6 log.length c6, .slice A7 acks.length c7, .slice A8 votes.length c8] 26)).cell? ⟨w.heap.size, 7, none⟩ = some (.slice A7 acks.length c7) := blk_cell HBX.out 7
  have hx8 : (w.alloc (.cells #[.int .i64 id, .int .i64 n, .int .i64 view, .int .i64 last, .bool works, .int .i64 commit, .slice A6 log.length c6, .slice A7 acks.length c7, .slice A8 votes.length c8] 26)).cell? ⟨w.heap.size, 8, none⟩ = some (.slice A8 votes.length c8) := blk_cell HBX.out 8
  go_enter Try.func15, Try.ntmps15
  go_upto_region 1 with fail
  go_cut [3] (fun s3 wx => s3 = .bool (viewsB ⟨id, n, view, last, works, commit, log, acks, votes, told⟩) ∧ Drawn0 (w.alloc (.cells #[.int .i64 id, .int .i64 n, .int .i64 view, .int .i64 last, .bool works, .int .i64 commit, .slice A6 log.length c6, .slice A7 acks.length c7, .slice A8 votes.length c8] 26)) wx)
  case first =>
    have HVD := Aside0.mk (show viewsB ⟨id, n, view, last, works, commit, log, acks, votes, told⟩ = (withinB view 1000000 && withinB last view && (!works || decide (last = view))) from rfl)
    cases hb1 : withinB view 1000000 with
    | false =>
      have H1 := Aside0.mk ((within_of view 1000000).trans (by rw [hb1]))
      have HV := Aside0.mk (show viewsB ⟨id, n, view, last, works, commit, log, acks, votes, told⟩ = false by rw [HVD.out, hb1]; rfl)
      clear hb1
      go_wp2_with (first | (go_at_call 37; with_reducible refine (replica_within.calls view 1000000 false _ H1.out).mono ?_; rintro e w' ⟨rfl, ⟨nd, rfl⟩⟩))
      go_meet
      exact ⟨by rw [HV.out], by repeat (first | exact Drawn0.refl _ | apply Drawn0.step)⟩
    | true =>
      have H1 := Aside0.mk ((within_of view 1000000).trans (by rw [hb1]))
      cases hb2 : withinB last view with
      | false =>
        have H2 := Aside0.mk ((within_of last view).trans (by rw [hb2]))
        have HV := Aside0.mk (show viewsB ⟨id, n, view, last, works, commit, log, acks, votes, told⟩ = false by rw [HVD.out, hb1, hb2]; rfl)
        clear hb1 hb2
        go_wp2_with (first | (go_at_call 37; with_reducible refine (replica_within.calls view 1000000 true _ H1.out).mono ?_; rintro e w' ⟨rfl, ⟨nd, rfl⟩⟩) | (go_at_call 37; with_reducible refine (replica_within.calls last view false _ H2.out).mono ?_; rintro e w' ⟨rfl, ⟨nd, rfl⟩⟩))
        go_meet
        exact ⟨by rw [HV.out], by repeat (first | exact Drawn0.refl _ | apply Drawn0.step)⟩
      | true =>
        have H2 := Aside0.mk ((within_of last view).trans (by rw [hb2]))
        cases works with
        | false =>
          have HV := Aside0.mk (show viewsB ⟨id, n, view, last, false, commit, log, acks, votes, told⟩ = true by rw [HVD.out, hb1, hb2]; rfl)
          clear hb1 hb2
          go_wp2_with (first | (go_at_call 37; with_reducible refine (replica_within.calls view 1000000 true _ H1.out).mono ?_; rintro e w' ⟨rfl, ⟨nd, rfl⟩⟩) | (go_at_call 37; with_reducible refine (replica_within.calls last view true _ H2.out).mono ?_; rintro e w' ⟨rfl, ⟨nd, rfl⟩⟩))
          go_meet
          exact ⟨by rw [HV.out], by repeat (first | exact Drawn0.refl _ | apply Drawn0.step)⟩
        | true =>
          have HV := Aside0.mk (show viewsB ⟨id, n, view, last, true, commit, log, acks, votes, told⟩ = decide (last = view) by rw [HVD.out, hb1, hb2]; simp)
          clear hb1 hb2
          by_cases he : last = view
          · have e1 : (last == view) = true := beq_iff_eq.mpr he
            have HV := Aside0.mk (show viewsB ⟨id, n, view, last, true, commit, log, acks, votes, told⟩ = true by rw [HV.out, decide_eq_true he])
            clear he
            go_wp2_with (first | (go_at_call 37; with_reducible refine (replica_within.calls view 1000000 true _ H1.out).mono ?_; rintro e w' ⟨rfl, ⟨nd, rfl⟩⟩) | (go_at_call 37; with_reducible refine (replica_within.calls last view true _ H2.out).mono ?_; rintro e w' ⟨rfl, ⟨nd, rfl⟩⟩))
            go_meet
            exact ⟨by rw [HV.out], by repeat (first | exact Drawn0.refl _ | apply Drawn0.step)⟩
          · have e1 : (last == view) = false := beq_eq_false_iff_ne.mpr he
            have HV := Aside0.mk (show viewsB ⟨id, n, view, last, true, commit, log, acks, votes, told⟩ = false by rw [HV.out, decide_eq_false he])
            clear he
            go_wp2_with (first | (go_at_call 37; with_reducible refine (replica_within.calls view 1000000 true _ H1.out).mono ?_; rintro e w' ⟨rfl, ⟨nd, rfl⟩⟩) | (go_at_call 37; with_reducible refine (replica_within.calls last view true _ H2.out).mono ?_; rintro e w' ⟨rfl, ⟨nd, rfl⟩⟩))
            go_meet
            exact ⟨by rw [HV.out], by repeat (first | exact Drawn0.refl _ | apply Drawn0.step)⟩
  case rest =>
    obtain ⟨rfl, HDN⟩ := hcut
    obtain ⟨nn, rfl⟩ := HDN.out
    clear HDN
    have HVIEWS := Aside0.mk (show viewsB ⟨id, n, view, last, works, commit, log, acks, votes, told⟩ = viewsB ⟨id, n, view, last, works, commit, log, acks, votes, told⟩ from rfl)
    have HFR := Aside0.mk (show frontB ⟨id, n, view, last, works, commit, log, acks, votes, told⟩ = (sizeB n && withinB id (n - 1) && viewsB ⟨id, n, view, last, works, commit, log, acks, votes, told⟩ && loggedB log commit && decide ((acks.length : Int) = n) && decide ((votes.length : Int) ≤ n)) from rfl)
    have HISD := Aside0.mk (show isB ⟨id, n, view, last, works, commit, log, acks, votes, told⟩ = (frontB ⟨id, n, view, last, works, commit, log, acks, votes, told⟩ && acks.all (fun a => withinB a (log.length : Int)) && votesB n view votes []) from rfl)
    clear HVIEWS
    generalize viewsB ⟨id, n, view, last, works, commit, log, acks, votes, told⟩ = vb at *
    generalize frontB ⟨id, n, view, last, works, commit, log, acks, votes, told⟩ = fr at *
    obtain ⟨k, hk⟩ : ∃ k, 101 ≤ k := ⟨101, Nat.le_refl _⟩
    have HK := Aside0.mk hk
    clear hk
    cases hs : sizeB n with
    | false =>
      have HS := Aside0.mk ((size_of n).trans (by rw [hs]))
      have HIS := Aside0.mk (show isB ⟨id, n, view, last, works, commit, log, acks, votes, told⟩ = false by rw [HISD.out, HFR.out, hs]; rfl)
      clear hs
      go_wp2_with (first | (go_at_call 28; with_reducible refine (replica_size.calls n false _ HS.out).mono ?_; rintro e w' ⟨rfl, ⟨nd, rfl⟩⟩))
      go_ret
      exact ⟨by rw [HIS.out]; rfl, by repeat (first | exact Below.refl _ _ | apply pw_below_drewN | apply below_drew1 | apply below_alloc)⟩
    | true =>
    have HS := Aside0.mk ((size_of n).trans (by rw [hs]))
    have hn7 : 1 ≤ n ∧ n ≤ 7 := by
      have h := hs
      unfold sizeB at h
      simp only [Bool.or_eq_true, decide_eq_true_eq] at h
      omega
    have hw1 : wrap64 (n - 1) = n - 1 := by unfold wrap64; omega
    have hw2 : IntKind.i64.wrap (n - 1) = n - 1 := by rw [IntKind.wrap_i64]; omega
    have HN7 := Aside0.mk hn7
    clear hn7
    cases hi : withinB id (n - 1) with
    | false =>
      have HI := Aside0.mk ((within_of id (n - 1)).trans (by rw [hi]))
      have HIS := Aside0.mk (show isB ⟨id, n, view, last, works, commit, log, acks, votes, told⟩ = false by rw [HISD.out, HFR.out, hs, hi]; rfl)
      clear hs hi
      go_wp2_with (first | (go_at_call 28; with_reducible refine (replica_size.calls n true _ HS.out).mono ?_; rintro e w' ⟨rfl, ⟨nd, rfl⟩⟩) | (go_at_call 37; with_reducible refine (replica_within.calls id (n - 1) false _ HI.out).mono ?_; rintro e w' ⟨rfl, ⟨nd, rfl⟩⟩))
      go_ret
      exact ⟨by rw [HIS.out]; rfl, by repeat (first | exact Below.refl _ _ | apply pw_below_drewN | apply below_drew1 | apply below_alloc)⟩
    | true =>
    have HI := Aside0.mk ((within_of id (n - 1)).trans (by rw [hi]))
    cases vb with
    | false =>
      have HIS := Aside0.mk (show isB ⟨id, n, view, last, works, commit, log, acks, votes, told⟩ = false by rw [HISD.out, HFR.out, hs, hi]; rfl)
      clear hs hi
      go_wp2_with (first | (go_at_call 28; with_reducible refine (replica_size.calls n true _ HS.out).mono ?_; rintro e w' ⟨rfl, ⟨nd, rfl⟩⟩) | (go_at_call 37; with_reducible refine (replica_within.calls id (n - 1) true _ HI.out).mono ?_; rintro e w' ⟨rfl, ⟨nd, rfl⟩⟩))
      go_ret
      exact ⟨by rw [HIS.out]; rfl, by repeat (first | exact Below.refl _ _ | apply pw_below_drewN | apply below_drew1 | apply below_alloc)⟩
    | true =>
    have HLG := Aside0.mk (logged_of k HK.out log commit HL.out)
    cases hg : loggedB log commit with
    | false =>
      rw [hg] at HLG
      have HIS := Aside0.mk (show isB ⟨id, n, view, last, works, commit, log, acks, votes, told⟩ = false by rw [HISD.out, HFR.out, hs, hi, hg]; rfl)
      clear hs hi hg
      go_wp2_with (first | (go_at_call 28; with_reducible refine (replica_size.calls n true _ HS.out).mono ?_; rintro e w' ⟨rfl, ⟨nd, rfl⟩⟩) | (go_at_call 37; with_reducible refine (replica_within.calls id (n - 1) true _ HI.out).mono ?_; rintro e w' ⟨rfl, ⟨nd, rfl⟩⟩) | (go_at_call 38; refine (replica_logged.calls k A6 c6 log commit false _ (by repeat (first | refine Kd.C_drewN ?_ _ | refine Kd.C_drew ?_ | exact Kd.C_alloc H6.out _)) L6.out HLG.out).mono ?_; rintro e w3 ⟨rfl, hb3⟩; have HB3 := Aside0.mk ((by repeat (first | exact below_alloc (Below.refl _ _) _ | refine pw_below_drewN ?_ _ | refine below_drew ?_) : Below w.heap.size w _).trans (below_weak hb3 (by simp))); have HBX3 := Aside0.mk ((hb3.block w.heap.size (by show w.heap.size < (w.alloc (.cells #[.int .i64 id, .int .i64 n, .int .i64 view, .int .i64 last, .bool works, .int .i64 commit, .slice A6 log.length c6, .slice A7 acks.length c7, .slice A8 votes.length c8] 26)).heap.size; simp)).trans HBX.out); have hw0 : w3.cell? ⟨w.heap.size, 0, none⟩ = some (.int .i64 id) := blk_cell HBX3.out 0; have hw1 : w3.cell? ⟨w.heap.size, 1, none⟩ = some (.int .i64 n) := blk_cell HBX3.out 1; have hw2 : w3.cell? ⟨w.heap.size, 2, none⟩ = some (.int .i64 view) := blk_cell HBX3.out 2; have hw3 : w3.cell? ⟨w.heap.size, 3, none⟩ = some (.int .i64 last) := blk_cell HBX3.out 3; have hw4 : w3.cell? ⟨w.heap.size, 4, none⟩ = some (.bool works) := blk_cell HBX3.out 4; have hw5 : w3.cell? ⟨w.heap.size, 5, none⟩ = some (.int .i64 commit) := blk_cell HBX3.out 5; have hw6 : w3.cell? ⟨w.heap.size, 6, none⟩ = some (.slice A6 log.length c6) := blk_cell HBX3.out 6; have hw7 : w3.cell? ⟨w.heap.size, 7, none⟩ = some (.slice A7 acks.length c7) := blk_cell HBX3.out 7; have hw8 : w3.cell? ⟨w.heap.size, 8, none⟩ = some (.slice A8 votes.length c8) := blk_cell HBX3.out 8; clear hb3))
      go_ret
      exact ⟨by rw [HIS.out]; rfl, by repeat (first | exact HB3.out | apply pw_below_drewN | apply below_drew1)⟩
    | true =>
    rw [hg] at HLG
    by_cases hac : (acks.length : Int) = n
    case neg =>
      have e1 : ((acks.length : Int) == n) = false := beq_eq_false_iff_ne.mpr hac
      have e2 : ((acks.length : Int) != n) = true := bne_iff_ne.mpr hac
      have HIS := Aside0.mk (show isB ⟨id, n, view, last, works, commit, log, acks, votes, told⟩ = false by rw [HISD.out, HFR.out, hs, hi, hg, decide_eq_false hac]; rfl)
      clear hs hi hg hac
      go_wp2_with (first | (go_at_call 28; with_reducible refine (replica_size.calls n true _ HS.out).mono ?_; rintro e w' ⟨rfl, ⟨nd, rfl⟩⟩) | (go_at_call 37; with_reducible refine (replica_within.calls id (n - 1) true _ HI.out).mono ?_; rintro e w' ⟨rfl, ⟨nd, rfl⟩⟩) | (go_at_call 38; refine (replica_logged.calls k A6 c6 log commit true _ (by repeat (first | refine Kd.C_drewN ?_ _ | refine Kd.C_drew ?_ | exact Kd.C_alloc H6.out _)) L6.out HLG.out).mono ?_; rintro e w3 ⟨rfl, hb3⟩; have HB3 := Aside0.mk ((by repeat (first | exact below_alloc (Below.refl _ _) _ | refine pw_below_drewN ?_ _ | refine below_drew ?_) : Below w.heap.size w _).trans (below_weak hb3 (by simp))); have HBX3 := Aside0.mk ((hb3.block w.heap.size (by show w.heap.size < (w.alloc (.cells #[.int .i64 id, .int .i64 n, .int .i64 view, .int .i64 last, .bool works, .int .i64 commit, .slice A6 log.length c6, .slice A7 acks.length c7, .slice A8 votes.length c8] 26)).heap.size; simp)).trans HBX.out); have hw0 : w3.cell? ⟨w.heap.size, 0, none⟩ = some (.int .i64 id) := blk_cell HBX3.out 0; have hw1 : w3.cell? ⟨w.heap.size, 1, none⟩ = some (.int .i64 n) := blk_cell HBX3.out 1; have hw2 : w3.cell? ⟨w.heap.size, 2, none⟩ = some (.int .i64 view) := blk_cell HBX3.out 2; have hw3 : w3.cell? ⟨w.heap.size, 3, none⟩ = some (.int .i64 last) := blk_cell HBX3.out 3; have hw4 : w3.cell? ⟨w.heap.size, 4, none⟩ = some (.bool works) := blk_cell HBX3.out 4; have hw5 : w3.cell? ⟨w.heap.size, 5, none⟩ = some (.int .i64 commit) := blk_cell HBX3.out 5; have hw6 : w3.cell? ⟨w.heap.size, 6, none⟩ = some (.slice A6 log.length c6) := blk_cell HBX3.out 6; have hw7 : w3.cell? ⟨w.heap.size, 7, none⟩ = some (.slice A7 acks.length c7) := blk_cell HBX3.out 7; have hw8 : w3.cell? ⟨w.heap.size, 8, none⟩ = some (.slice A8 votes.length c8) := blk_cell HBX3.out 8; clear hb3))
      go_ret
      exact ⟨by rw [HIS.out]; rfl, by repeat (first | exact HB3.out | apply pw_below_drewN | apply below_drew1)⟩
    case pos =>
    have e1 : ((acks.length : Int) == n) = true := beq_iff_eq.mpr hac
    have e2 : ((acks.length : Int) != n) = false := bne_eq_false_iff_eq.mpr hac
    by_cases hvo : (votes.length : Int) ≤ n
    case neg =>
      have e3 : decide ((votes.length : Int) > n) = true := decide_eq_true (by omega)
      have e4 : decide (n < (votes.length : Int)) = true := decide_eq_true (by omega)
      have HIS := Aside0.mk (show isB ⟨id, n, view, last, works, commit, log, acks, votes, told⟩ = false by rw [HISD.out, HFR.out, hs, hi, hg, decide_eq_true hac, decide_eq_false hvo]; rfl)
      clear hs hi hg hac hvo
      go_wp2_with (first | (go_at_call 28; with_reducible refine (replica_size.calls n true _ HS.out).mono ?_; rintro e w' ⟨rfl, ⟨nd, rfl⟩⟩) | (go_at_call 37; with_reducible refine (replica_within.calls id (n - 1) true _ HI.out).mono ?_; rintro e w' ⟨rfl, ⟨nd, rfl⟩⟩) | (go_at_call 38; refine (replica_logged.calls k A6 c6 log commit true _ (by repeat (first | refine Kd.C_drewN ?_ _ | refine Kd.C_drew ?_ | exact Kd.C_alloc H6.out _)) L6.out HLG.out).mono ?_; rintro e w3 ⟨rfl, hb3⟩; have HB3 := Aside0.mk ((by repeat (first | exact below_alloc (Below.refl _ _) _ | refine pw_below_drewN ?_ _ | refine below_drew ?_) : Below w.heap.size w _).trans (below_weak hb3 (by simp))); have HBX3 := Aside0.mk ((hb3.block w.heap.size (by show w.heap.size < (w.alloc (.cells #[.int .i64 id, .int .i64 n, .int .i64 view, .int .i64 last, .bool works, .int .i64 commit, .slice A6 log.length c6, .slice A7 acks.length c7, .slice A8 votes.length c8] 26)).heap.size; simp)).trans HBX.out); have hw0 : w3.cell? ⟨w.heap.size, 0, none⟩ = some (.int .i64 id) := blk_cell HBX3.out 0; have hw1 : w3.cell? ⟨w.heap.size, 1, none⟩ = some (.int .i64 n) := blk_cell HBX3.out 1; have hw2 : w3.cell? ⟨w.heap.size, 2, none⟩ = some (.int .i64 view) := blk_cell HBX3.out 2; have hw3 : w3.cell? ⟨w.heap.size, 3, none⟩ = some (.int .i64 last) := blk_cell HBX3.out 3; have hw4 : w3.cell? ⟨w.heap.size, 4, none⟩ = some (.bool works) := blk_cell HBX3.out 4; have hw5 : w3.cell? ⟨w.heap.size, 5, none⟩ = some (.int .i64 commit) := blk_cell HBX3.out 5; have hw6 : w3.cell? ⟨w.heap.size, 6, none⟩ = some (.slice A6 log.length c6) := blk_cell HBX3.out 6; have hw7 : w3.cell? ⟨w.heap.size, 7, none⟩ = some (.slice A7 acks.length c7) := blk_cell HBX3.out 7; have hw8 : w3.cell? ⟨w.heap.size, 8, none⟩ = some (.slice A8 votes.length c8) := blk_cell HBX3.out 8; clear hb3))
      go_ret
      exact ⟨by rw [HIS.out]; rfl, by repeat (first | exact HB3.out | apply pw_below_drewN | apply below_drew1)⟩
    case pos =>
    have e3 : decide ((votes.length : Int) > n) = false := decide_eq_false (by omega)
    have e4 : decide (n < (votes.length : Int)) = false := decide_eq_false (by omega)
    have HIS := Aside0.mk (show isB ⟨id, n, view, last, works, commit, log, acks, votes, told⟩ = (acks.all (fun a => withinB a (log.length : Int)) && votesB n view votes []) by rw [HISD.out, HFR.out, hs, hi, hg, decide_eq_true hac, decide_eq_true hvo]; rfl)
    clear hs hi hg hac hvo HISD HFR
    go_wp2_with (first | (go_at_call 28; with_reducible refine (replica_size.calls n true _ HS.out).mono ?_; rintro e w' ⟨rfl, ⟨nd, rfl⟩⟩) | (go_at_call 37; with_reducible refine (replica_within.calls id (n - 1) true _ HI.out).mono ?_; rintro e w' ⟨rfl, ⟨nd, rfl⟩⟩) | (go_at_call 38; refine (replica_logged.calls k A6 c6 log commit true _ (by repeat (first | refine Kd.C_drewN ?_ _ | refine Kd.C_drew ?_ | exact Kd.C_alloc H6.out _)) L6.out HLG.out).mono ?_; rintro e w3 ⟨rfl, hb3⟩; have HB3 := Aside0.mk ((by repeat (first | exact below_alloc (Below.refl _ _) _ | refine pw_below_drewN ?_ _ | refine below_drew ?_) : Below w.heap.size w _).trans (below_weak hb3 (by simp))); have HBX3 := Aside0.mk ((hb3.block w.heap.size (by show w.heap.size < (w.alloc (.cells #[.int .i64 id, .int .i64 n, .int .i64 view, .int .i64 last, .bool works, .int .i64 commit, .slice A6 log.length c6, .slice A7 acks.length c7, .slice A8 votes.length c8] 26)).heap.size; simp)).trans HBX.out); have hw0 : w3.cell? ⟨w.heap.size, 0, none⟩ = some (.int .i64 id) := blk_cell HBX3.out 0; have hw1 : w3.cell? ⟨w.heap.size, 1, none⟩ = some (.int .i64 n) := blk_cell HBX3.out 1; have hw2 : w3.cell? ⟨w.heap.size, 2, none⟩ = some (.int .i64 view) := blk_cell HBX3.out 2; have hw3 : w3.cell? ⟨w.heap.size, 3, none⟩ = some (.int .i64 last) := blk_cell HBX3.out 3; have hw4 : w3.cell? ⟨w.heap.size, 4, none⟩ = some (.bool works) := blk_cell HBX3.out 4; have hw5 : w3.cell? ⟨w.heap.size, 5, none⟩ = some (.int .i64 commit) := blk_cell HBX3.out 5; have hw6 : w3.cell? ⟨w.heap.size, 6, none⟩ = some (.slice A6 log.length c6) := blk_cell HBX3.out 6; have hw7 : w3.cell? ⟨w.heap.size, 7, none⟩ = some (.slice A7 acks.length c7) := blk_cell HBX3.out 7; have hw8 : w3.cell? ⟨w.heap.size, 8, none⟩ = some (.slice A8 votes.length c8) := blk_cell HBX3.out 8; clear hb3))
    clear hx0 hx1 hx2 hx3 hx4 hx5 hx6 hx7 hx8
    have H73 := Aside0.mk (Kd.C_below H7.out HB3.out)
    have HAM := Aside0.mk (show acks.length ≤ 4398046511104 by have := HA.out; omega)
    go_loopg [75] acks.length (fun kq v75 w' => ∃ (i : Nat), v75 = .int .i64 (i : Int) ∧ Aside0 (kq = acks.length - i ∧ i ≤ acks.length) ∧ Aside0 ((acks.take i).all (fun a => withinB a (log.length : Int)) = true) ∧ Drawn0 w3 w')
    case atStart => exact ⟨0, rfl, ⟨by simp⟩, ⟨by simp⟩, Drawn0.refl _⟩
    case round =>
      obtain ⟨i, rfl, hi, HALL, ⟨m1, rfl⟩⟩ := hrel
      by_cases hlt : i < acks.length
      · have hb1 : decide ((i : Int) < (acks.length : Int)) = true := decide_eq_true (by omega)
        have p1 : (0 : Int) ≤ (i : Int) := by omega
        have q1 : (i : Int) < (acks.length : Int) := by omega
        obtain ⟨ad, rfl, hc⟩ := Kd.at_int H73.out (i : Int) p1 q1
        simp only [Int.toNat_natCast] at hc
        replace p1 := eq_true p1
        replace q1 := eq_true q1
        have hrd : rd acks (i : Int) = acks[i] := by simp [rd, List.getD_eq_getElem?_getD, List.getElem?_eq_getElem hlt]
        have HT1 := Aside0.mk (show acks.take (i + 1) = acks.take i ++ [rd acks (i : Int)] by rw [List.take_succ_eq_append_getElem hlt, hrd])
        have HMEM := Aside0.mk (show rd acks (i : Int) ∈ acks by rw [hrd]; exact List.getElem_mem hlt)
        clear hrd
        generalize rd acks (i : Int) = a at *
        cases hb : withinB a (log.length : Int) with
        | true =>
          have HWI := Aside0.mk ((within_of a (log.length : Int)).trans (by rw [hb]))
          have HBT := Aside0.mk hb
          clear hb
          go_wp2_with (first | (go_at_call 37; with_reducible refine (replica_within.calls a (log.length : Int) true _ HWI.out).mono ?_; rintro e w' ⟨rfl, ⟨nd, rfl⟩⟩))
          go_roundg (acks.length - (i + 1))
          case measure => have := hi.out.1; omega
          case rel =>
            have hw : wrap64 ((i : Int) + 1) = ((i + 1 : Nat) : Int) := by have := HAM.out; unfold wrap64; omega
            refine ⟨i + 1, by rw [hw], ⟨by have := hi.out; omega, by omega⟩, ⟨?_⟩, by repeat (first | exact Drawn0.refl _ | apply Drawn0.step)⟩
            rw [HT1.out, List.all_append, HALL.out]
            simp [HBT.out]
        | false =>
          have HWI := Aside0.mk ((within_of a (log.length : Int)).trans (by rw [hb]))
          have HIS2 := Aside0.mk (show isB ⟨id, n, view, last, works, commit, log, acks, votes, told⟩ = false by
            rw [HIS.out]
            have : acks.all (fun a => withinB a (log.length : Int)) = false := by
              rw [List.all_eq_false]
              exact ⟨a, HMEM.out, by rw [hb]; exact Bool.false_ne_true⟩
            rw [this]; rfl)
          clear hb
          go_wp2_with (first | (go_at_call 37; with_reducible refine (replica_within.calls a (log.length : Int) false _ HWI.out).mono ?_; rintro e w' ⟨rfl, ⟨nd, rfl⟩⟩))
          go_ret
          exact ⟨by rw [HIS2.out]; rfl, by repeat (first | exact HB3.out | apply pw_below_drewN | apply below_drew1)⟩
      · have hb1 : decide ((i : Int) < (acks.length : Int)) = false := decide_eq_false (by omega)
        have hie : i = acks.length := by have := hi.out; omega
        have HALL2 := Aside0.mk (show acks.all (fun a => withinB a (log.length : Int)) = true by have h := HALL.out; rwa [hie, List.take_length] at h)
        have HIS2 := Aside0.mk (show isB ⟨id, n, view, last, works, commit, log, acks, votes, told⟩ = votesB n view votes [] by rw [HIS.out, HALL2.out, Bool.true_and])
        clear hie
        have hmk : ∀ W : World, (Instr.makeMap 69 none).run Try.prog W = .ok (.map (some W.heap.size)) (W.alloc (.map #[] 0)) := fun _ => rfl
        have HB4 := Aside0.mk (show Below w.heap.size w (w3.drewN m1) by repeat (first | exact HB3.out | apply pw_below_drewN))
        have HBX4 := Aside0.mk (show (w3.drewN m1).heap[w.heap.size]? = _ from HBX3.out)
        clear hw0 hw1 hw2 hw3 hw4 hw5 hw6 hw7 hw8
        have hwa : wrap64 (n - 1) = n - 1 := by have := HN7.out; unfold wrap64; omega
        have hwb : IntKind.i64.wrap (n - 1) = n - 1 := by have := HN7.out; rw [IntKind.wrap_i64]; omega
        generalize w3.drewN m1 = w4 at *
        have hq8 : (w4.alloc (.map #[] 0)).cell? ⟨w.heap.size, 8, none⟩ = some (.slice A8 votes.length c8) := blk_cell (blk_alloc HBX4.out _) 8
        have HB5 := Aside0.mk (below_alloc HB4.out (.map #[] 0))
        have HBX5 := Aside0.mk (blk_alloc HBX4.out (.map #[] 0))
        have HO5 := Aside0.mk (World.ownsMap_made (H := Unit) w4 Try.prog 3 (plainElem Try.prog 4))
        have HGM := Aside0.mk (show w.heap.size ≠ w4.heap.size by have := blk_lt HBX4.out; omega)
        have HGM2 := Aside0.mk (show w.heap.size ≤ w4.heap.size from HB4.out.size)
        have HVM := Aside0.mk (show votes.length ≤ 4398046511104 by have := HVL.out; omega)
        go_wp2
        generalize hgm : w4.heap.size = gm at *
        clear hgm hq8
        go_loopg [90] votes.length (fun kq v90 w' => ∃ (i : Nat) (D : DataW Unit) (seen : List Int), v90 = .int .i64 (i : Int) ∧ Aside0 (kq = votes.length - i ∧ i ≤ votes.length) ∧ Aside0 (w'.ownsMap Try.prog 3 (plainElem Try.prog 4) gm i D) ∧ Aside0 (Inv2 D seen) ∧ Aside0 (votesB n view votes [] = votesB n view (votes.drop i) seen) ∧ Aside0 (Below w.heap.size w w') ∧ Aside0 (w'.heap[w.heap.size]? = some (.cells #[.int .i64 id, .int .i64 n, .int .i64 view, .int .i64 last, .bool works, .int .i64 commit, .slice A6 log.length c6, .slice A7 acks.length c7, .slice A8 votes.length c8] 26 (0, 0))))
        case atStart => exact ⟨0, .map [], [], rfl, ⟨by simp⟩, HO5, ⟨fun c => rfl⟩, ⟨rfl⟩, HB5, HBX5⟩
        case round =>
          obtain ⟨i, D, seen, rfl, hi, HO, HI2, HVB, HB, HBX⟩ := hrel
          by_cases hlt : i < votes.length
          · have hb1 : decide ((i : Int) < (votes.length : Int)) = true := decide_eq_true (by omega)
            have p1 : (0 : Int) ≤ (i : Int) := by omega
            have q1 : (i : Int) < (votes.length : Int) := by omega
            obtain ⟨ad, A3, c3, rfl, hy0, hy1, hy2, hy3, hly, hiy⟩ := at_T66 (Kd.C_below H8.out HB.out) (i : Int) p1 q1
            simp only [Int.toNat_natCast] at hy0 hy1 hy2 hy3
            have hrd : rd_T66 votes (i : Int) = votes[i] := by simp [rd_T66, List.getD_eq_getElem?_getD, List.getElem?_eq_getElem hlt]
            have HDROP := Aside0.mk (show votes.drop i = rd_T66 votes (i : Int) :: votes.drop (i + 1) by rw [hrd]; exact List.drop_eq_getElem_cons hlt)
            have HVV2 := Aside0.mk (show (rd_T66 votes (i : Int)).f3.length < 4398046511104 ∧ (Lit.int .i64 (rd_T66 votes (i : Int)).f0).wf = true by rw [hrd]; exact HVV.out _ (List.getElem_mem hlt))
            clear hrd
            replace p1 := eq_true p1
            replace q1 := eq_true q1
            generalize rd_T66 votes (i : Int) = v at *
            have HIY := Aside0.mk hiy
            have HLY := Aside0.mk hly
            have hr1 : ∀ o, (wr.alloc o).cell? ⟨w.heap.size, 1, none⟩ = some (.int .i64 n) := fun o => blk_cell (blk_alloc HBX.out o) 1
            have hr2 : ∀ o, (wr.alloc o).cell? ⟨w.heap.size, 2, none⟩ = some (.int .i64 view) := fun o => blk_cell (blk_alloc HBX.out o) 2
            have hkey : keyOf Try.prog 3 (.int .i64 v.f0) = some (.int .i64 v.f0) := Maps.keyOf_int_mk Try.underlying3 HVV2.out.2
            have hlook : ∀ o, (Instr.lookup 69 (.map (some gm)) (.int .i64 v.f0) false).run Try.prog (wr.alloc o) = .ok (.bool (seen.contains v.f0)) (wr.alloc o) := fun o => look2 (HO.out.alloc o) HI2.out v.f0 hkey
            have HSTEP := Aside0.mk (show votesB n view votes [] = if seen.contains v.f0 || !withinB v.f0 (n - 1) || !withinB v.f1 view || !loggedB v.f3 v.f2 then false else votesB n view (votes.drop (i + 1)) (v.f0 :: seen) by rw [HVB.out, HDROP.out]; rfl)
            clear hiy hly
            cases hsc : seen.contains v.f0 with
            | true =>
              simp only [hsc] at hlook
              have HIS3 := Aside0.mk (show isB ⟨id, n, view, last, works, commit, log, acks, votes, told⟩ = false by rw [HIS2.out, HSTEP.out, hsc]; rfl)
              clear hsc
              go_wp2
              go_ret
              exact ⟨by rw [HIS3.out]; rfl, by repeat (first | exact HB.out | apply pw_below_drewN | apply below_drew1 | apply below_alloc)⟩
            | false =>
            simp only [hsc] at hlook
            cases hw1 : withinB v.f0 (n - 1) with
            | false =>
              have HW1 := Aside0.mk ((within_of v.f0 (n - 1)).trans (by rw [hw1]))
              have HIS3 := Aside0.mk (show isB ⟨id, n, view, last, works, commit, log, acks, votes, told⟩ = false by rw [HIS2.out, HSTEP.out, hsc, hw1]; rfl)
              clear hsc hw1
              go_wp2_with (first | (go_at_call 37; with_reducible refine (replica_within.calls v.f0 (n - 1) false _ HW1.out).mono ?_; rintro e w' ⟨rfl, ⟨nd, rfl⟩⟩))
              go_ret
              exact ⟨by rw [HIS3.out]; rfl, by repeat (first | exact HB.out | apply pw_below_drewN | apply below_drew1 | apply below_alloc)⟩
            | true =>
            have HW1 := Aside0.mk ((within_of v.f0 (n - 1)).trans (by rw [hw1]))
            cases hw2 : withinB v.f1 view with
            | false =>
              have HW2 := Aside0.mk ((within_of v.f1 view).trans (by rw [hw2]))
              have HIS3 := Aside0.mk (show isB ⟨id, n, view, last, works, commit, log, acks, votes, told⟩ = false by rw [HIS2.out, HSTEP.out, hsc, hw1, hw2]; rfl)
              clear hsc hw1 hw2
              go_wp2_with (first | (go_at_call 37; with_reducible refine (replica_within.calls v.f0 (n - 1) true _ HW1.out).mono ?_; rintro e w' ⟨rfl, ⟨nd, rfl⟩⟩) | (go_at_call 37; with_reducible refine (replica_within.calls v.f1 view false _ HW2.out).mono ?_; rintro e w' ⟨rfl, ⟨nd2, rfl⟩⟩))
              go_ret
              exact ⟨by rw [HIS3.out]; rfl, by repeat (first | exact HB.out | apply pw_below_drewN | apply below_drew1 | apply below_alloc)⟩
            | true =>
            have HW2 := Aside0.mk ((within_of v.f1 view).trans (by rw [hw2]))
            have HLV := Aside0.mk (logged_of k HK.out v.f3 v.f2 HVV2.out.1)
            cases hlg : loggedB v.f3 v.f2 with
            | false =>
              rw [hlg] at HLV
              have HIS3 := Aside0.mk (show isB ⟨id, n, view, last, works, commit, log, acks, votes, told⟩ = false by rw [HIS2.out, HSTEP.out, hsc, hw1, hw2, hlg]; rfl)
              clear hsc hw1 hw2 hlg
              go_wp2_with (first | (go_at_call 37; with_reducible refine (replica_within.calls v.f0 (n - 1) true _ HW1.out).mono ?_; rintro e w' ⟨rfl, ⟨nd, rfl⟩⟩) | (go_at_call 37; with_reducible refine (replica_within.calls v.f1 view true _ HW2.out).mono ?_; rintro e w' ⟨rfl, ⟨nd2, rfl⟩⟩) | (go_at_call 38; refine (replica_logged.calls k A3 c3 v.f3 v.f2 false _ (by repeat (first | exact HIY.out | refine Kd.C_drewN ?_ _ | refine Kd.C_drew ?_ | refine Kd.C_alloc ?_ _)) HLY.out HLV.out).mono ?_; rintro e w9 ⟨rfl, hb9⟩; have HB9 := Aside0.mk hb9; have HBV9 := Aside0.mk ((hb9.block wr.heap.size (by show wr.heap.size < (wr.alloc (.cells #[.int .i64 v.f0, .int .i64 v.f1, .int .i64 v.f2, .slice A3 v.f3.length c3] 66)).heap.size; simp)).trans (x_alloc_new wr (.cells #[.int .i64 v.f0, .int .i64 v.f1, .int .i64 v.f2, .slice A3 v.f3.length c3] 66))); have hv90 : w9.cell? ⟨wr.heap.size, 0, none⟩ = some (.int .i64 v.f0) := blk_cell HBV9.out 0; clear hb9))
              go_ret
              exact ⟨by rw [HIS3.out]; rfl, below_step (pw_below_drewN (below_alloc HB.out _) _) HB9.out⟩
            | true =>
              rw [hlg] at HLV
              have HNEXT := Aside0.mk (show votesB n view votes [] = votesB n view (votes.drop (i + 1)) (v.f0 :: seen) by rw [HSTEP.out, hsc, hw1, hw2, hlg]; rfl)
              have HI3 := Aside0.mk (inv2_put HO.out HI2.out v.f0)
              clear hsc hw1 hw2 hlg
              go_wp2_with (first | (go_at_call 37; with_reducible refine (replica_within.calls v.f0 (n - 1) true _ HW1.out).mono ?_; rintro e w' ⟨rfl, ⟨nd, rfl⟩⟩) | (go_at_call 37; with_reducible refine (replica_within.calls v.f1 view true _ HW2.out).mono ?_; rintro e w' ⟨rfl, ⟨nd2, rfl⟩⟩) | (go_at_call 38; refine (replica_logged.calls k A3 c3 v.f3 v.f2 true _ (by repeat (first | exact HIY.out | refine Kd.C_drewN ?_ _ | refine Kd.C_drew ?_ | refine Kd.C_alloc ?_ _)) HLY.out HLV.out).mono ?_; rintro e w9 ⟨rfl, hb9⟩; have HB9 := Aside0.mk hb9; have HBV9 := Aside0.mk ((hb9.block wr.heap.size (by show wr.heap.size < (wr.alloc (.cells #[.int .i64 v.f0, .int .i64 v.f1, .int .i64 v.f2, .slice A3 v.f3.length c3] 66)).heap.size; simp)).trans (x_alloc_new wr (.cells #[.int .i64 v.f0, .int .i64 v.f1, .int .i64 v.f2, .slice A3 v.f3.length c3] 66))); have hv90 : w9.cell? ⟨wr.heap.size, 0, none⟩ = some (.int .i64 v.f0) := blk_cell HBV9.out 0; clear hb9) | (at_mapUpdate; refine wpList_mapUpdate_own (H := Unit) _ rfl _ _ _ 69 rfl 3 4 (Maps.int_keyed Try.underlying3) Try.underlying69 (plainElem Try.prog 4) gm i D rfl ?own ?room _ _ (.int .i64 v.f0) rfl rfl hkey (.lit (.bool true)) [] (plainElem_bool Try.underlying4 true) ?_; (case own => exact ownsMap_below (by first | exact HO.out.alloc _ | exact (HO.out.alloc _).drew) HB9.out); (case room => have := HVM.out; simp [maxLen]; omega); intro w10 ho2 hg2; have HO2 := Aside0.mk ho2; have HG2 := Aside0.mk hg2; clear ho2 hg2))
              have HB10 := Aside0.mk (below_step (pw_below_drewN (below_alloc HB.out _) _) HB9.out)
              have HBX9 := Aside0.mk ((HB9.out.block w.heap.size (by have := blk_lt HBX.out; show w.heap.size < (wr.alloc (.cells #[.int .i64 v.f0, .int .i64 v.f1, .int .i64 v.f2, .slice A3 v.f3.length c3] 66)).heap.size; simp; omega)).trans (blk_alloc HBX.out (.cells #[.int .i64 v.f0, .int .i64 v.f1, .int .i64 v.f2, .slice A3 v.f3.length c3] 66)))
              go_roundg (votes.length - (i + 1))
              case measure => have := hi.out.1; omega
              case rel =>
                have hw : wrap64 ((i : Int) + 1) = ((i + 1 : Nat) : Int) := by have := HVM.out; unfold wrap64; omega
                refine ⟨i + 1, D.put (.int .i64 v.f0) (.lit (.bool true)), v.f0 :: seen, by rw [hw], ⟨by have := hi.out; omega, by omega⟩, HO2, HI3, HNEXT, ⟨?_⟩, ⟨?_⟩⟩
                · exact Below.grown HB10.out HG2.out HB10.out.size (fun k hk => by injection hk with hk; have := HGM2.out; omega)
                · exact (HG2.out.block w.heap.size (blk_lt HBX9.out) (fun e => HGM.out (Option.some.inj e))).trans HBX9.out
          · have hb1 : decide ((i : Int) < (votes.length : Int)) = false := decide_eq_false (by omega)
            have hie : i = votes.length := by have := hi.out; omega
            have HIS3 := Aside0.mk (show isB ⟨id, n, view, last, works, commit, log, acks, votes, told⟩ = true by rw [HIS2.out, HVB.out, hie, List.drop_length]; rfl)
            clear hie
            go_wp2
            go_ret
            exact ⟨by rw [HIS3.out]; rfl, by repeat (first | exact HB.out | apply pw_below_drewN | apply below_drew1 | apply below_alloc)⟩
end Go.Proofs.Ytfpfpckocemmdaa.P
end
section
namespace Go.Proofs.Ytfpfpckocemmdaa.P
open Go.RowKit Go.Proofs.YtfpfpckocemmdaaW.PrintWords Go.Proofs.YtfpfpckocemmdaaW.PrintLast Go.Proofs.YtfpfpckocemmdaaW.PrintMore
set_option linter.unusedVariables false
set_option linter.unusedSimpArgs false
theorem nd_make {W : World} {base : Nat} {x : Nod} {v6 v7 v8 : Value} {P8 : Nat → Prop} {ok6 ok7 : Nat → Prop} (hb : base ≤ W.heap.size) (h6 : Kd.R Kd.string 9 W base ok6 v6 x.log) (h7 : Kd.R (Kd.int .i64) 3 W base ok7 v7 x.acks) (h8 : Kd.S k66 66 W base P8 v8 x.votes) (ht : x.told = [])
    (h86 : ∀ k, P8 k → some k ≠ v6.ownBlock ∧ some k ≠ v7.ownBlock) :
    Nd (W.alloc (.cells (x.cells v6 v7 v8 (.slice none 0 0)) 57)) base W.heap.size (fun k => base ≤ k) x := by
  have t6 := Kd.R_bound (Kd.R_tight rfl h6)
  have t7 := Kd.R_bound (Kd.R_tight rfl h7)
  have t8 := Kd.S_bound h8
  refine ⟨v6, v7, v8, .slice none 0 0, _, _, _, fun _ => False, x_alloc_new _ _, hb, hb, Kd.R_alloc t6 _, Kd.R_alloc t7 _, Kd.S_alloc t8 _, by rw [ht]; exact Kd.S_nil _ _ _ _ _, ?_, ?_, ?_, fun k _ h => h⟩
  · rintro k (hk | hk | hk | hk)
    · exact ⟨hk.2.1, by have := hk.2.2.1; omega⟩
    · exact ⟨hk.2.1, by have := hk.2.2.1; omega⟩
    · exact ⟨hk.2.1, by have := hk.2.2.1; omega⟩
    · exact hk.elim
  · intro k hk
    refine ⟨fun h => ?_, fun h => (h86 k h.1).1 hk.1, fun h => h⟩
    obtain ⟨_, _, _, q, hq, cs, hc⟩ := hk
    obtain ⟨_, _, _, q2, hq2, cs2, hc2⟩ := h
    rw [hc] at hc2
    injection hc2 with hc2
    injection hc2 with _ h3 _
    have e1 : q = 9 := by simpa [Kd.string, Kd.scalar] using hq
    have e2 : q2 = 3 := by simpa [Kd.int, Kd.scalar] using hq2
    rw [e1, e2] at h3
    exact absurd h3 (by decide)
  · exact fun k hk => ⟨fun h => (h86 k h.1).2 hk.1, fun h => h⟩
def readd (l : List S66) : List S66 := l.foldl addTo []
def Nod.opened (x : Nod) : Nod := { x with votes := readd x.votes, told := [] }
theorem readd_append (l : List S66) (v : S66) : readd (l ++ [v]) = addTo (readd l) v := by unfold readd; rw [List.foldl_append]; rfl
theorem readd_mem_go (l : List S66) : ∀ (a : List S66) v, v ∈ l.foldl addTo a → v ∈ a ∨ v ∈ l := by
  induction l with
  | nil => exact fun a v hv => .inl hv
  | cons u l ih =>
    intro a v hv
    rw [List.foldl_cons] at hv
    rcases ih _ v hv with h | h
    · unfold addTo at h
      rw [List.mem_append] at h
      rcases h with h | h
      · exact .inl (List.mem_filter.1 h).1
      · exact .inr (by rw [List.mem_singleton.1 h]; exact List.mem_cons_self)
    · exact .inr (List.mem_cons_of_mem _ h)
theorem readd_mem (l : List S66) : ∀ v, v ∈ readd l → v ∈ l := fun v hv => (readd_mem_go l [] v hv).elim (fun h => absurd h (by simp)) id
theorem readd_length_go (l : List S66) : ∀ a : List S66, (l.foldl addTo a).length ≤ a.length + l.length := by
  induction l with
  | nil => exact fun a => Nat.le_refl _
  | cons u l ih =>
    intro a
    rw [List.foldl_cons]
    have h1 := ih (addTo a u)
    have h2 := addTo_length a u
    simp only [List.length_cons]
    omega
theorem readd_length (l : List S66) : (readd l).length ≤ l.length := by have := readd_length_go l []; simpa [readd] using this
end Go.Proofs.Ytfpfpckocemmdaa.P
end
section
namespace Go.Proofs.Ytfpfpckocemmdaa.P
open Go.RowKit Go.Proofs.YtfpfpckocemmdaaW.PrintWords Go.Proofs.YtfpfpckocemmdaaW.PrintLast Go.Proofs.YtfpfpckocemmdaaW.PrintMore
set_option linter.unusedVariables false
set_option linter.unusedSimpArgs false
@[reducible] def ldLog (n : Nat) : Op := Op.load 22 (Operand.tmp n)
theorem ldLog_eq (n : Nat) : Op.load 22 (Operand.tmp n) = ldLog n := rfl
@[reducible] def ldAcks (n : Nat) : Op := Op.load 23 (Operand.tmp n)
theorem ldAcks_eq (n : Nat) : Op.load 23 (Operand.tmp n) = ldAcks n := rfl
set_option maxHeartbeats 8000000 in
set_option maxRecDepth 100000 in
theorem open_not (id n view last : Int) (works : Bool) (commit : Int) (log : List ByteArray) (acks : List Int) (votes : List S66) (told : List S28) (A6 A7 A8 : Option Addr) (c6 c7 c8 : Nat) (w : World) (h6 : Kd.C Kd.string w A6 log.length log) (l6 : log.length ≤ c6) (h7 : Kd.C (Kd.int .i64) w A7 acks.length acks) (l7 : acks.length ≤ c7) (h8 : Kd.C k66 w A8 votes.length votes) (l8 : votes.length ≤ c8)
    (hl : log.length < 4398046511104) (ha : acks.length < 4398046511104) (hvl : votes.length < 4398046511104) (hv : ∀ v, v ∈ votes → v.f3.length < 4398046511104 ∧ (Lit.int .i64 v.f0).wf = true) (his : isB ⟨id, n, view, last, works, commit, log, acks, votes, told⟩ = false) :
    Calls Try.prog 21 #[.agg #[.int .i64 id, .int .i64 n, .int .i64 view, .int .i64 last, .bool works, .int .i64 commit, .slice A6 log.length c6, .slice A7 acks.length c7, .slice A8 votes.length c8]] w fun e w' => e = .panicked [{ v := .iface 31 (.int .i64 1), recovered := false }] ∧ Below w.heap.size w w' := by
  have hu26 := Try.underlying26
  have H15 := Aside0.mk ((is_calls id n view last works commit log acks votes told A6 A7 A8 c6 c7 c8 (w.alloc (.cells #[.int .i64 id, .int .i64 n, .int .i64 view, .int .i64 last, .bool works, .int .i64 commit, .slice A6 log.length c6, .slice A7 acks.length c7, .slice A8 votes.length c8] 26)) (Kd.C_alloc h6 _) l6 (Kd.C_alloc h7 _) l7 (Kd.C_alloc h8 _) l8 hl ha hvl hv).mono (R' := fun e w' => e = .returned (.bool false) ∧ Below (w.alloc (.cells #[.int .i64 id, .int .i64 n, .int .i64 view, .int .i64 last, .bool works, .int .i64 commit, .slice A6 log.length c6, .slice A7 acks.length c7, .slice A8 votes.length c8] 26)).heap.size (w.alloc (.cells #[.int .i64 id, .int .i64 n, .int .i64 view, .int .i64 last, .bool works, .int .i64 commit, .slice A6 log.length c6, .slice A7 acks.length c7, .slice A8 votes.length c8] 26)) w') (fun e w' h => ⟨by rw [h.1, his], h.2⟩))
  have hx0 : (w.alloc (.cells #[.int .i64 id, .int .i64 n, .int .i64 view, .int .i64 last, .bool works, .int .i64 commit, .slice A6 log.length c6, .slice A7 acks.length c7, .slice A8 votes.length c8] 26)).cell? ⟨w.heap.size, 0, none⟩ = some (.int .i64 id) := blk_cell (x_alloc_new w _) 0
  have hx1 : (w.alloc (.cells #[.int .i64 id, .int .i64 n, .int .i64 view, .int .i64 last, .bool works, .int .i64 commit, .slice A6 log.length c6, .slice A7 acks.length c7, .slice A8 votes.length c8] 26)).cell? ⟨w.heap.size, 1, none⟩ = some (.int .i64 n) := blk_cell (x_alloc_new w _) 1
  have hx2 : (w.alloc (.cells #[.int .i64 id, .int .i64 n, .int .i64 view, .int .i64 last, .bool works, .int .i64 commit, .slice A6 log.length c6, .slice A7 acks.length c7, .slice A8 votes.length c8] 26)).cell? ⟨w.heap.size, 2, none⟩ = some (.int .i64 view) := blk_cell (x_alloc_new w _) 2
  have hx3 : (w.alloc (.cells #[.int .i64 id, .int .i64 n, .int .i64 view, .int .i64 last, .bool works, .int .i64 commit, .slice A6 log.length c6, .slice A7 acks.length c7, .slice A8 votes.length c8] 26)).cell? ⟨w.heap.size, 3, none⟩ = some (.int .i64 last) := blk_cell (x_alloc_new w _) 3
  have hx4 : (w.alloc (.cells #[.int .i64 id, .int .i64 n, .int .i64 view, .int .i64 last, .bool works, .int .i64 commit, .slice A6 log.length c6, .slice A7 acks.length c7, .slice A8 votes.length c8] 26)).cell? ⟨w.heap.size, 4, none⟩ = some (.bool works) := blk_cell (x_alloc_new w _) 4
  have hx5 : (w.alloc (.cells #[.int .i64 id, .int .i64 n, .int .i64 view, .int .i64 last, .bool works, .int .i64 commit, .slice A6 log.length c6, .slice A7 acks.length c7, .slice A8 votes.length c8] 26)).cell? ⟨w.heap.size, 5, none⟩ = some (.int .i64 commit) := blk_cell (x_alloc_new w _) 5
  have hx6 : (w.alloc (.cells #[.int .i64 id, .int .i64 n, .int .i64 view, .int .i64 last, .bool works, .int .i64 commit, .slice A6 log.length c6, .slice A7 acks.length c7, .slice A8 votes.length c8] 26)).cell? ⟨w.heap.size, 6, none⟩ = some (.slice A6 log.length c6) := blk_cell (x_alloc_new w _) 6
  have hx7 : (w.alloc (.cells #[.int .i64 id, .int .i64 n, .int .i64 view, .int .i64 last, .bool works, .int .i64 commit, .slice A6 log.length c6, .slice A7 acks.length c7, .slice A8 votes.length c8] 26)).cell? ⟨w.heap.size, 7, none⟩ = some (.slice A7 acks.length c7) := blk_cell (x_alloc_new w _) 7
  have hx8 : (w.alloc (.cells #[.int .i64 id, .int .i64 n, .int .i64 view, .int .i64 last, .bool works, .int .i64 commit, .slice A6 log.length c6, .slice A7 acks.length c7, .slice A8 votes.length c8] 26)).cell? ⟨w.heap.size, 8, none⟩ = some (.slice A8 votes.length c8) := blk_cell (x_alloc_new w _) 8
  clear h6 l6 h7 l7 h8 l8 hl ha hvl hv his
  have hpn : ∀ W : World, (Instr.panic (.iface 31 (.int .i64 1))).run Try.prog W = .halt (.panic (.iface 31 (.int .i64 1))) W := fun _ => rfl
  go_enter Try.func21, Try.ntmps21
  go_wp2_with (first | (go_at_call 15; refine H15.out.mono ?_; rintro e w5 ⟨rfl, hb5⟩; have HB5 := Aside0.mk hb5; clear hb5))
  exact ⟨rfl, rfl, below_step (below_alloc (Below.refl _ _) _) HB5.out⟩
set_option maxHeartbeats 8000000 in
set_option maxRecDepth 100000 in
theorem open_is (id n view last : Int) (works : Bool) (commit : Int) (log : List ByteArray) (acks : List Int) (votes : List S66) (told : List S28) (A6 A7 A8 : Option Addr) (c6 c7 c8 : Nat) (w : World) (h6 : Kd.C Kd.string w A6 log.length log) (l6 : log.length ≤ c6) (h7 : Kd.C (Kd.int .i64) w A7 acks.length acks) (l7 : acks.length ≤ c7) (h8 : Kd.C k66 w A8 votes.length votes) (l8 : votes.length ≤ c8)
    (hl : log.length < 4398046511104) (ha : acks.length < 4398046511104) (hvl : votes.length < 4398046511104) (hv : ∀ v, v ∈ votes → v.f3.length < 4398046511104 ∧ (Lit.int .i64 v.f0).wf = true) (his : isB ⟨id, n, view, last, works, commit, log, acks, votes, told⟩ = true) (hvs : votes.length ≤ 900) (hvt : ∀ v, v ∈ votes → v.f3.length ≤ 1000) :
    Calls Try.prog 21 #[.agg #[.int .i64 id, .int .i64 n, .int .i64 view, .int .i64 last, .bool works, .int .i64 commit, .slice A6 log.length c6, .slice A7 acks.length c7, .slice A8 votes.length c8]] w fun e w' => ∃ g, e = .returned (.pointer (some ⟨g, 0, none⟩)) ∧ Nd w' w.heap.size g (fun k => w.heap.size ≤ k) (Nod.opened ⟨id, n, view, last, works, commit, log, acks, votes, told⟩) ∧ Below w.heap.size w w' := by
  have hu26 := Try.underlying26
  have hu66 := Try.underlying66
  have hu57 := Try.underlying57
  have H15 := Aside0.mk ((is_calls id n view last works commit log acks votes told A6 A7 A8 c6 c7 c8 (w.alloc (.cells #[.int .i64 id, .int .i64 n, .int .i64 view, .int .i64 last, .bool works, .int .i64 commit, .slice A6 log.length c6, .slice A7 acks.length c7, .slice A8 votes.length c8] 26)) (Kd.C_alloc h6 _) l6 (Kd.C_alloc h7 _) l7 (Kd.C_alloc h8 _) l8 hl ha hvl hv).mono (R' := fun e w' => e = .returned (.bool true) ∧ Below (w.alloc (.cells #[.int .i64 id, .int .i64 n, .int .i64 view, .int .i64 last, .bool works, .int .i64 commit, .slice A6 log.length c6, .slice A7 acks.length c7, .slice A8 votes.length c8] 26)).heap.size (w.alloc (.cells #[.int .i64 id, .int .i64 n, .int .i64 view, .int .i64 last, .bool works, .int .i64 commit, .slice A6 log.length c6, .slice A7 acks.length c7, .slice A8 votes.length c8] 26)) w') (fun e w' h => ⟨by rw [h.1, his], h.2⟩))
  have hx0 : (w.alloc (.cells #[.int .i64 id, .int .i64 n, .int .i64 view, .int .i64 last, .bool works, .int .i64 commit, .slice A6 log.length c6, .slice A7 acks.length c7, .slice A8 votes.length c8] 26)).cell? ⟨w.heap.size, 0, none⟩ = some (.int .i64 id) := blk_cell (x_alloc_new w _) 0
  have hx1 : (w.alloc (.cells #[.int .i64 id, .int .i64 n, .int .i64 view, .int .i64 last, .bool works, .int .i64 commit, .slice A6 log.length c6, .slice A7 acks.length c7, .slice A8 votes.length c8] 26)).cell? ⟨w.heap.size, 1, none⟩ = some (.int .i64 n) := blk_cell (x_alloc_new w _) 1
  have hx2 : (w.alloc (.cells #[.int .i64 id, .int .i64 n, .int .i64 view, .int .i64 last, .bool works, .int .i64 commit, .slice A6 log.length c6, .slice A7 acks.length c7, .slice A8 votes.length c8] 26)).cell? ⟨w.heap.size, 2, none⟩ = some (.int .i64 view) := blk_cell (x_alloc_new w _) 2
  have hx3 : (w.alloc (.cells #[.int .i64 id, .int .i64 n, .int .i64 view, .int .i64 last, .bool works, .int .i64 commit, .slice A6 log.length c6, .slice A7 acks.length c7, .slice A8 votes.length c8] 26)).cell? ⟨w.heap.size, 3, none⟩ = some (.int .i64 last) := blk_cell (x_alloc_new w _) 3
  have hx4 : (w.alloc (.cells #[.int .i64 id, .int .i64 n, .int .i64 view, .int .i64 last, .bool works, .int .i64 commit, .slice A6 log.length c6, .slice A7 acks.length c7, .slice A8 votes.length c8] 26)).cell? ⟨w.heap.size, 4, none⟩ = some (.bool works) := blk_cell (x_alloc_new w _) 4
  have hx5 : (w.alloc (.cells #[.int .i64 id, .int .i64 n, .int .i64 view, .int .i64 last, .bool works, .int .i64 commit, .slice A6 log.length c6, .slice A7 acks.length c7, .slice A8 votes.length c8] 26)).cell? ⟨w.heap.size, 5, none⟩ = some (.int .i64 commit) := blk_cell (x_alloc_new w _) 5
  have hx6 : (w.alloc (.cells #[.int .i64 id, .int .i64 n, .int .i64 view, .int .i64 last, .bool works, .int .i64 commit, .slice A6 log.length c6, .slice A7 acks.length c7, .slice A8 votes.length c8] 26)).cell? ⟨w.heap.size, 6, none⟩ = some (.slice A6 log.length c6) := blk_cell (x_alloc_new w _) 6
  have hx7 : (w.alloc (.cells #[.int .i64 id, .int .i64 n, .int .i64 view, .int .i64 last, .bool works, .int .i64 commit, .slice A6 log.length c6, .slice A7 acks.length c7, .slice A8 votes.length c8] 26)).cell? ⟨w.heap.size, 7, none⟩ = some (.slice A7 acks.length c7) := blk_cell (x_alloc_new w _) 7
  have hx8 : (w.alloc (.cells #[.int .i64 id, .int .i64 n, .int .i64 view, .int .i64 last, .bool works, .int .i64 commit, .slice A6 log.length c6, .slice A7 acks.length c7, .slice A8 votes.length c8] 26)).cell? ⟨w.heap.size, 8, none⟩ = some (.slice A8 votes.length c8) := blk_cell (x_alloc_new w _) 8
  have HM6 := Aside0.mk (fun (W : World) (hb : Below w.heap.size w W) => Kd.C_below h6 hb)
  have HM7 := Aside0.mk (fun (W : World) (hb : Below w.heap.size w W) => Kd.C_below h7 hb)
  have HM8 := Aside0.mk (fun (W : World) (hb : Below w.heap.size w W) => Kd.C_below h8 hb)
  have L6 := Aside0.mk l6
  have L7 := Aside0.mk l7
  have L8 := Aside0.mk l8
  have HC6 := Aside0.mk (show slices_Clone_string_string.f log = some log from if_pos hl)
  have HC7 := Aside0.mk (show slices_Clone_int_int.f acks = some acks from if_pos ha)
  have HVS := Aside0.mk hvs
  have HVT := Aside0.mk hvt
  clear h6 l6 h7 l7 h8 l8 hl ha hvl hv his hvs hvt
  go_enter Try.func21, Try.ntmps21
  go_wp2_with (first | (go_at_call 15; refine H15.out.mono ?_; rintro e w5 ⟨rfl, hb5⟩; have HB5 := Aside0.mk (below_step (below_alloc (Below.refl _ _) _) hb5); have HBX5 := Aside0.mk ((hb5.block w.heap.size (by simp)).trans (x_alloc_new w (.cells #[.int .i64 id, .int .i64 n, .int .i64 view, .int .i64 last, .bool works, .int .i64 commit, .slice A6 log.length c6, .slice A7 acks.length c7, .slice A8 votes.length c8] 26))); clear hb5))
  clear hx0 hx1 hx2 hx3 hx4 hx5 hx6 hx7 hx8
  go_cut [] (fun wx => ∃ (B6 : Option Addr) (d6 : Nat) (B7 : Option Addr) (d7 : Nat), Aside0 (wx.heap[w.heap.size]? = some (.cells #[.int .i64 id, .int .i64 n, .int .i64 view, .int .i64 last, .bool works, .int .i64 commit, .slice B6 log.length d6, .slice B7 acks.length d7, .slice A8 votes.length c8] 26 (0, 0))) ∧ Aside0 (Kd.R Kd.string 9 wx (w.heap.size + 1) (fun k => w.heap.size + 1 ≤ k) (.slice B6 log.length d6) log) ∧ Aside0 (Kd.R (Kd.int .i64) 3 wx (w.heap.size + 1) (fun k => w.heap.size + 1 ≤ k) (.slice B7 acks.length d7) acks) ∧ Aside0 (Below w.heap.size w wx))
  case first =>
    have HBz := Aside0.mk (show Below w.heap.size w w5.drew from below_drew HB5.out)
    have HBXz := Aside0.mk (show w5.drew.heap[w.heap.size]? = _ from HBX5.out)
    have hy6 : w5.cell? ⟨w.heap.size, 6, none⟩ = some (.slice A6 log.length c6) := blk_cell HBX5.out 6
    have hy7 : w5.cell? ⟨w.heap.size, 7, none⟩ = some (.slice A7 acks.length c7) := blk_cell HBX5.out 7
    rw [ldLog_eq 10, ldAcks_eq 13]
    go_region_held3 (fun _ => True) (trivial)
      (first
        | (refine x_step_call rfl Try.func42 (by kernel_rfl) rfl #[.slice A6 log.length c6] rfl (by simp [Act.eval, Act.put]) ?_; refine (slices_Clone_string_string.calls A6 c6 log log _ (HM6.out _ HBz.out) L6.out HC6.out).mono ?_; rintro e wa ⟨va, rfl, hR, hb⟩; obtain ⟨B6, d6, rfl⟩ := Kd.R_slice hR; have HR6 := Aside0.mk (Kd.R_lower hR (by have h1 := blk_lt HBXz.out; omega : w.heap.size + 1 ≤ _)); (try have HR7 := Aside0.mk (Kd.R_step HR7.out (fun k _ hk => hb.block k hk))); have HBz := Aside0.mk (below_step HBz.out hb); have HBXz := Aside0.mk ((hb.block w.heap.size (blk_lt HBXz.out)).trans HBXz.out); have hz6 := blk_cell HBXz.out 6; have hz7 := blk_cell HBXz.out 7; have hf6 := blk_frozen HBXz.out 6; have hf7 := blk_frozen HBXz.out 7; clear hb hR; refine ⟨_, rfl, ?_⟩)
        | (refine x_step_call rfl Try.func43 (by kernel_rfl) rfl #[.slice A7 acks.length c7] rfl (by simp [Act.eval, Act.put]) ?_; refine (slices_Clone_int_int.calls A7 c7 acks acks _ (HM7.out _ HBz.out) L7.out HC7.out).mono ?_; rintro e wa ⟨va, rfl, hR, hb⟩; obtain ⟨B7, d7, rfl⟩ := Kd.R_slice hR; have HR7 := Aside0.mk (Kd.R_lower hR (by have h1 := blk_lt HBXz.out; omega : w.heap.size + 1 ≤ _)); (try have HR6 := Aside0.mk (Kd.R_step HR6.out (fun k _ hk => hb.block k hk))); have HBz := Aside0.mk (below_step HBz.out hb); have HBXz := Aside0.mk ((hb.block w.heap.size (blk_lt HBXz.out)).trans HBXz.out); have hz6 := blk_cell HBXz.out 6; have hz7 := blk_cell HBXz.out 7; have hf6 := blk_frozen HBXz.out 6; have hf7 := blk_frozen HBXz.out 7; clear hb hR; refine ⟨_, rfl, ?_⟩))
    all_goals
      go_wp2_with fail
      go_meet
      exact ⟨B6, d6, B7, d7, ⟨blk_put (cs := #[.int .i64 id, .int .i64 n, .int .i64 view, .int .i64 last, .bool works, .int .i64 commit, .slice B6 log.length d6, .slice A7 acks.length c7, .slice A8 votes.length c8]) (blk_put (cs' := #[.int .i64 id, .int .i64 n, .int .i64 view, .int .i64 last, .bool works, .int .i64 commit, .slice B6 log.length d6, .slice A7 acks.length c7, .slice A8 votes.length c8]) HBXz.out 6 _ rfl) 7 _ rfl⟩, ⟨Kd.R_far (Kd.R_far (Kd.R_mono (Kd.R_bound HR6.out) (fun k hk => hk.2.1)) (fun k hk => by have h : w.heap.size + 1 ≤ k := hk; show k ≠ w.heap.size; omega) _) (fun k hk => by have h : w.heap.size + 1 ≤ k := hk; show k ≠ w.heap.size; omega) _⟩, ⟨Kd.R_far (Kd.R_far (Kd.R_mono (Kd.R_bound HR7.out) (fun k hk => hk.2.1)) (fun k hk => by have h : w.heap.size + 1 ≤ k := hk; show k ≠ w.heap.size; omega) _) (fun k hk => by have h : w.heap.size + 1 ≤ k := hk; show k ≠ w.heap.size; omega) _⟩, ⟨below_set (below_set HBz.out (Nat.le_refl _)) (Nat.le_refl _)⟩⟩
  case rest =>
    obtain ⟨B6, d6, B7, d7, HBXc, HR6c, HR7c, HBc⟩ := hcut
    have hq8 : wc.cell? ⟨w.heap.size, 8, none⟩ = some (.slice A8 votes.length c8) := blk_cell HBXc.out 8
    have hf8 : wc.frozen? ⟨w.heap.size, 8, none⟩ = false := blk_frozen HBXc.out 8
    have HLT := Aside0.mk (blk_lt HBXc.out)
    go_wp2_with fail
    go_loopg [23] votes.length (fun kq v23 w' => ∃ (i : Nat) (v8 : Value), v23 = .int .i64 (i : Int) ∧ Aside0 (kq = votes.length - i ∧ i ≤ votes.length) ∧ Aside0 (w'.heap[w.heap.size]? = some (.cells #[.int .i64 id, .int .i64 n, .int .i64 view, .int .i64 last, .bool works, .int .i64 commit, .slice B6 log.length d6, .slice B7 acks.length d7, v8] 26 (0, 0))) ∧ Aside0 (Kd.S k66 66 w' (w.heap.size + 1) (fun k => wc.heap.size ≤ k) v8 (readd (votes.take i))) ∧ Aside0 (Kd.R Kd.string 9 w' (w.heap.size + 1) (fun k => w.heap.size + 1 ≤ k ∧ k < wc.heap.size) (.slice B6 log.length d6) log) ∧ Aside0 (Kd.R (Kd.int .i64) 3 w' (w.heap.size + 1) (fun k => w.heap.size + 1 ≤ k ∧ k < wc.heap.size) (.slice B7 acks.length d7) acks) ∧ Aside0 (Below w.heap.size w w' ∧ wc.heap.size ≤ w'.heap.size))
    case atStart =>
      exact ⟨0, .slice none 0 0, rfl, ⟨by simp⟩, ⟨blk_put HBXc.out 8 _ rfl⟩, ⟨Kd.S_nil _ _ _ _ _⟩, ⟨Kd.R_far (Kd.R_mono (Kd.R_bound HR6c.out) (fun k hk => ⟨hk.1, hk.2.2.1⟩)) (fun k hk => by have h : w.heap.size + 1 ≤ k := hk.1; show k ≠ w.heap.size; omega) _⟩, ⟨Kd.R_far (Kd.R_mono (Kd.R_bound HR7c.out) (fun k hk => ⟨hk.1, hk.2.2.1⟩)) (fun k hk => by have h : w.heap.size + 1 ≤ k := hk.1; show k ≠ w.heap.size; omega) _⟩, ⟨below_set HBc.out (Nat.le_refl _), by simp [World.setCell]⟩⟩
    case round =>
      clear hq8 hf8
      obtain ⟨i, v8, rfl, hi, HBX, HS, HR6, HR7, HB⟩ := hrel
      obtain ⟨A9, c9, rfl⟩ := Kd.S_slice HS.out
      by_cases hlt : i < votes.length
      · have hb1 : decide ((i : Int) < (votes.length : Int)) = true := decide_eq_true (by omega)
        have p1 : (0 : Int) ≤ (i : Int) := by omega
        have q1 : (i : Int) < (votes.length : Int) := by omega
        obtain ⟨ad, A3, c3, rfl, hy0, hy1, hy2, hy3, hly, hiy⟩ := at_T66 (HM8.out _ HB.out.1) (i : Int) p1 q1
        simp only [Int.toNat_natCast] at hy0 hy1 hy2 hy3
        have hrd : rd_T66 votes (i : Int) = votes[i] := by simp [rd_T66, List.getD_eq_getElem?_getD, List.getElem?_eq_getElem hlt]
        have HT1 := Aside0.mk (show votes.take (i + 1) = votes.take i ++ [rd_T66 votes (i : Int)] by rw [List.take_succ_eq_append_getElem hlt, hrd])
        have HVM := Aside0.mk (show (rd_T66 votes (i : Int)).f3.length ≤ 1000 by rw [hrd]; exact HVT.out _ (List.getElem_mem hlt))
        clear hrd
        replace p1 := eq_true p1
        replace q1 := eq_true q1
        generalize rd_T66 votes (i : Int) = v at *
        have HIY := Aside0.mk hiy
        have HLY := Aside0.mk hly
        have hlen := readd_length (votes.take i)
        have hlen2 : (votes.take i).length ≤ 900 := by have := HVS.out; simp; omega
        have HADD := Aside0.mk (add_of (readd (votes.take i)) v (by omega) HVM.out (fun u hu => HVT.out u (List.mem_of_mem_take (readd_mem _ u hu))))
        rw [← readd_append, ← HT1.out] at HADD
        clear hiy hly hlen hlen2
        have HRD := Aside0.mk (Kd.S_reads' HS.out)
        have hn8 : ∀ o, (wr.alloc o).cell? ⟨w.heap.size, 8, none⟩ = some (.slice A9 (readd (votes.take i)).length c9) := fun o => blk_cell (blk_alloc HBX.out o) 8
        go_wp2_with (first | (go_at_call 40; refine (quorum_Add.calls ((readd (votes.take i)).length + 1) A9 c9 (readd (votes.take i)) v.f0 v.f1 v.f2 A3 c3 v.f3 _ _ (Kd.C_alloc HRD.out.2.2 _) HRD.out.2.1 (Kd.C_alloc HIY.out _) HLY.out HADD.out).mono ?_; rintro e w9 ⟨v9, rfl, hS9, hb9⟩; obtain ⟨A10, c10, rfl⟩ := Kd.S_slice hS9; have HS9 := Aside0.mk hS9; have HB9 := Aside0.mk hb9; have HBX9 := Aside0.mk ((hb9.block w.heap.size (by have := blk_lt HBX.out; simp; omega)).trans (blk_alloc HBX.out (.cells #[.int .i64 v.f0, .int .i64 v.f1, .int .i64 v.f2, .slice A3 v.f3.length c3] 66))); have hm8 : w9.cell? ⟨w.heap.size, 8, none⟩ = some (.slice A9 (readd (votes.take i)).length c9) := blk_cell HBX9.out 8; have hf9 : w9.frozen? ⟨w.heap.size, 8, none⟩ = false := blk_frozen HBX9.out 8; clear hS9 hb9))
        go_roundg (votes.length - (i + 1))
        case measure => have := hi.out.1; omega
        case rel =>
          have hw : wrap64 ((i : Int) + 1) = ((i + 1 : Nat) : Int) := by have := HVS.out; unfold wrap64; omega
          have hsz : wc.heap.size ≤ w9.heap.size := by have h1 := HB9.out.size; have h2 := HB.out.2; simp at h1; omega
          have hst : ∀ k, k < wr.heap.size → w9.heap[k]? = wr.heap[k]? := fun k hk => (HB9.out.block k (by simp; omega)).trans (Below.heap_alloc wr _ k hk)
          have hwc := HLT.out
          refine ⟨i + 1, _, by rw [hw], ⟨by have := hi.out; omega, by omega⟩, ⟨blk_put HBX9.out 8 _ rfl⟩, ⟨Kd.S_far (Kd.S_mono (Kd.S_lower (Kd.S_bound HS9.out) (by have := HB.out.2; simp; omega : w.heap.size + 1 ≤ _)) (fun k hk => ?_)) (fun k hk => ?_) _⟩, ⟨Kd.R_far (Kd.R_step HR6.out (fun k hk hl => hst k hl)) (fun k hk => by have h : w.heap.size + 1 ≤ k := hk.1; show k ≠ w.heap.size; omega) _⟩, ⟨Kd.R_far (Kd.R_step HR7.out (fun k hk hl => hst k hl)) (fun k hk => by have h : w.heap.size + 1 ≤ k := hk.1; show k ≠ w.heap.size; omega) _⟩, ⟨below_set (below_step (below_alloc HB.out.1 _) HB9.out) (Nat.le_refl _), by simpa [World.setCell] using hsz⟩⟩
          · have h1 := hk.2.1; have h2 := HB.out.2; simp at h1; omega
          · have h1 : wc.heap.size ≤ k := hk; show k ≠ w.heap.size; omega
      · have hb1 : decide ((i : Int) < (votes.length : Int)) = false := decide_eq_false (by omega)
        have hie : i = votes.length := by have := hi.out; omega
        have HV8 := Aside0.mk (show readd (votes.take i) = readd votes by rw [hie, List.take_length])
        clear hie
        rw [HV8.out] at HS HBX
        have hz0 : wr.cell? ⟨w.heap.size, 0, none⟩ = some (.int .i64 id) := blk_cell HBX.out 0
        have hz1 : wr.cell? ⟨w.heap.size, 1, none⟩ = some (.int .i64 n) := blk_cell HBX.out 1
        have hz2 : wr.cell? ⟨w.heap.size, 2, none⟩ = some (.int .i64 view) := blk_cell HBX.out 2
        have hz3 : wr.cell? ⟨w.heap.size, 3, none⟩ = some (.int .i64 last) := blk_cell HBX.out 3
        have hz4 : wr.cell? ⟨w.heap.size, 4, none⟩ = some (.bool works) := blk_cell HBX.out 4
        have hz5 : wr.cell? ⟨w.heap.size, 5, none⟩ = some (.int .i64 commit) := blk_cell HBX.out 5
        have hz6 : wr.cell? ⟨w.heap.size, 6, none⟩ = some (.slice B6 log.length d6) := blk_cell HBX.out 6
        have hz7 : wr.cell? ⟨w.heap.size, 7, none⟩ = some (.slice B7 acks.length d7) := blk_cell HBX.out 7
        have hz8 : wr.cell? ⟨w.heap.size, 8, none⟩ = some (.slice A9 (readd votes).length c9) := blk_cell HBX.out 8
        go_wp2
        go_ret
        have hmk := nd_make (x := Nod.opened ⟨id, n, view, last, works, commit, log, acks, votes, told⟩) (base := w.heap.size) (W := wr) (by have := HB.out.1.size; omega) (Kd.R_lower HR6.out (by omega)) (Kd.R_lower HR7.out (by omega)) (Kd.S_lower (Kd.S_bound HS.out) (by omega)) rfl (fun k hk => ⟨fun e => ?_, fun e => ?_⟩)
        · exact ⟨wr.heap.size, rfl, hmk, below_alloc HB.out.1 _⟩
        · have h1 := HR6.out.1 k e.symm
          have h2 := hk.1
          have h3 := h1.2
          omega
        · have h1 := HR7.out.1 k e.symm
          have h2 := hk.1
          have h3 := h1.2
          omega
end Go.Proofs.Ytfpfpckocemmdaa.P
end
section
namespace Go.Proofs.Ytfpfpckocemmdaa.P
open Go.RowKit Go.Proofs.YtfpfpckocemmdaaW.PrintWords Go.Proofs.YtfpfpckocemmdaaW.PrintLast Go.Proofs.YtfpfpckocemmdaaW.PrintMore
set_option linter.unusedVariables false
set_option linter.unusedSimpArgs false
def zeroNode : Array Value := #[.int .i64 0, .int .i64 0, .int .i64 0, .int .i64 0, .bool false, .int .i64 0, .slice none 0 0, .slice none 0 0, .slice none 0 0]
section
variable {P : Program} {ops : Array Oper} {Q : Exit → Act → List Frame → World → Prop} {rest : List Nat} {a : Act} {cs : List Frame} {w w' : World} {i : Nat} {o : Oper} {v : Value}
theorem opsS_value (ho : ops[i]? = some o) (hg : o.guard = none) (hr : (execOp a.eval o).run P w = .ok (.value v) w') (h : wpOpsS P ops Q rest (a.put o.dst v) cs w') : wpOpsS P ops Q (i :: rest) a cs w := by
  have hw : Region.wanted o (yielded ops a.tmps) = true := by simp [Region.wanted, hg]
  simp only [wpOpsS, ho, hw, if_true, hr, Oper.upon]
  exact h
theorem opsS_recover (ho : ops[i]? = some o) (hg : o.guard = none) (hr : (execOp a.eval o).run P w = .ok .recover w') {cs' : List Frame} (hd : recoverD cs = some (v, cs')) (h : wpOpsS P ops Q rest (a.put o.dst v) cs' w') : wpOpsS P ops Q (i :: rest) a cs w := by
  have hw : Region.wanted o (yielded ops a.tmps) = true := by simp [Region.wanted, hg]
  simp only [wpOpsS, ho, hw, if_true, hr, hd]
  exact h
theorem opsS_recover_none (ho : ops[i]? = some o) (hg : o.guard = none) (hr : (execOp a.eval o).run P w = .ok .recover w') (hd : recoverD cs = none) (h : wpOpsS P ops Q rest (a.put o.dst .nilIface) cs w') : wpOpsS P ops Q (i :: rest) a cs w := by
  have hw : Region.wanted o (yielded ops a.tmps) = true := by simp [Region.wanted, hg]
  simp only [wpOpsS, ho, hw, if_true, hr, hd]
  exact h
end
set_option maxHeartbeats 800000 in
set_option maxRecDepth 100000 in
theorem caught_idle (p q r : Addr) (w : World) :
    CallsD Try.prog 20 #[.pointer (some p), .pointer (some q), .pointer (some r)] .returning w fun e u' w' => e = .returned (.tuple #[]) ∧ u' = .returning ∧ w' = w := by
  refine callsD_of_wpS Try.func20 rfl fun c₀ cs hu => ?_
  have e : (({ tmps := #[.pointer (some p), .pointer (some q), .pointer (some r)] ++ Array.replicate (Try.f20.ntmps - (Array.size (#[.pointer (some p), .pointer (some q), .pointer (some r)] : Array Value))) undef, defers := [] } : Act)) = { tmps := #[.pointer (some p), .pointer (some q), .pointer (some r), undef, undef, undef, undef, undef, undef, undef, undef, undef, undef, undef, undef, undef, undef, undef, undef, undef, undef, undef], defers := [] } := by kernel_rfl
  rw [e]
  clear e
  apply wpS_seq
  apply wpS_region
  show wpOpsS _ _ _ [0, 1, 2, 3, 4, 5, 6] _ _ _
  refine opsS_recover_none (w' := w) rfl rfl (by kernel_rfl) (by simp [recoverD, hu]) ?_
  refine opsS_value (v := .tuple #[.int .i64 0, .bool false]) (w' := w) rfl rfl (by kernel_rfl) ?_
  refine opsS_value (v := .tuple #[.int .i64 0, .bool false]) (w' := w) rfl rfl (by kernel_rfl) ?_
  refine opsS_value (v := .int .i64 0) (w' := w) rfl rfl (by kernel_rfl) ?_
  refine opsS_value (v := .bool false) (w' := w) rfl rfl (by kernel_rfl) ?_
  refine opsS_value (v := .int .i64 0) (w' := w) rfl rfl (by kernel_rfl) ?_
  refine opsS_value (v := .bool false) (w' := w) rfl rfl (by kernel_rfl) ?_
  show Code.wpS _ _ _ _ _ _
  refine wpS_of_wp ?_
  go_wp2
  exact ⟨rfl, .returning, by rw [← hu], .tuple #[], by kernel_rfl, rfl, rfl, rfl⟩
set_option maxHeartbeats 800000 in
set_option maxRecDepth 100000 in
theorem caught_panicking (gy gl ge : Nat) (x : Int) (older : List PanicEntry) (w : World) (hy : w.heap[gy]? = some (.cells zeroNode 26 (0, 0))) (hl : w.heap[gl]? = some (.cells #[.slice none 0 0] 30 (0, 0))) (he : w.heap[ge]? = some (.cells #[.int .i64 0] 31 (0, 0)))
    (n1 : gy ≠ gl) (n2 : gy ≠ ge) (n3 : gl ≠ ge) :
    CallsD Try.prog 20 #[.pointer (some ⟨gy, 0, none⟩), .pointer (some ⟨gl, 0, none⟩), .pointer (some ⟨ge, 0, none⟩)] (.panicking ({ v := .iface 31 (.int .i64 x), recovered := false } :: older)) w fun e u' w' => e = .returned (.tuple #[]) ∧ u' = .panicking ({ v := .iface 31 (.int .i64 x), recovered := true } :: older) ∧
      w'.heap[gy]? = some (.cells zeroNode 26 (0, 0)) ∧ w'.heap[gl]? = some (.cells #[.slice none 0 0] 30 (0, 0)) ∧ w'.heap[ge]? = some (.cells #[.int .i64 x] 31 (0, 0)) ∧ (∀ B, B ≤ gy → B ≤ gl → B ≤ ge → Below B w w') := by
  refine callsD_of_wpS Try.func20 rfl fun c₀ cs hu => ?_
  have e : (({ tmps := #[.pointer (some ⟨gy, 0, none⟩), .pointer (some ⟨gl, 0, none⟩), .pointer (some ⟨ge, 0, none⟩)] ++ Array.replicate (Try.f20.ntmps - (Array.size (#[.pointer (some ⟨gy, 0, none⟩), .pointer (some ⟨gl, 0, none⟩), .pointer (some ⟨ge, 0, none⟩)] : Array Value))) undef, defers := [] } : Act)) = { tmps := #[.pointer (some ⟨gy, 0, none⟩), .pointer (some ⟨gl, 0, none⟩), .pointer (some ⟨ge, 0, none⟩), undef, undef, undef, undef, undef, undef, undef, undef, undef, undef, undef, undef, undef, undef, undef, undef, undef, undef, undef], defers := [] } := by kernel_rfl
  rw [e]
  clear e
  have hu26 := Try.underlying26
  apply wpS_seq
  apply wpS_region
  show wpOpsS _ _ _ [0, 1, 2, 3, 4, 5, 6] _ _ _
  refine opsS_recover (v := .iface 31 (.int .i64 x)) (cs' := { c₀ with mode := .panicking ({ v := .iface 31 (.int .i64 x), recovered := true } :: older) } :: cs) (w' := w) rfl rfl (by kernel_rfl) (by simp [recoverD, hu]) ?_
  refine opsS_value (v := .tuple #[.int .i64 x, .bool true]) (w' := w) rfl rfl (by kernel_rfl) ?_
  refine opsS_value (v := .tuple #[.int .i64 x, .bool true]) (w' := w) rfl rfl (by kernel_rfl) ?_
  refine opsS_value (v := .int .i64 x) (w' := w) rfl rfl (by kernel_rfl) ?_
  refine opsS_value (v := .bool true) (w' := w) rfl rfl (by kernel_rfl) ?_
  refine opsS_value (v := .int .i64 x) (w' := w) rfl rfl (by kernel_rfl) ?_
  refine opsS_value (v := .bool true) (w' := w) rfl rfl (by kernel_rfl) ?_
  show Code.wpS _ _ _ _ _ _
  refine wpS_of_wp ?_
  have hc0 : w.cell? ⟨gy, 0, none⟩ = some (.int .i64 0) := (blk_cell hy 0).trans rfl
  have hf0 := blk_frozen hy 0
  have hc1 : w.cell? ⟨gy, 1, none⟩ = some (.int .i64 0) := (blk_cell hy 1).trans rfl
  have hf1 := blk_frozen hy 1
  have hc2 : w.cell? ⟨gy, 2, none⟩ = some (.int .i64 0) := (blk_cell hy 2).trans rfl
  have hf2 := blk_frozen hy 2
  have hc3 : w.cell? ⟨gy, 3, none⟩ = some (.int .i64 0) := (blk_cell hy 3).trans rfl
  have hf3 := blk_frozen hy 3
  have hc4 : w.cell? ⟨gy, 4, none⟩ = some (.bool false) := (blk_cell hy 4).trans rfl
  have hf4 := blk_frozen hy 4
  have hc5 : w.cell? ⟨gy, 5, none⟩ = some (.int .i64 0) := (blk_cell hy 5).trans rfl
  have hf5 := blk_frozen hy 5
  have hc6 : w.cell? ⟨gy, 6, none⟩ = some (.slice none 0 0) := (blk_cell hy 6).trans rfl
  have hf6 := blk_frozen hy 6
  have hc7 : w.cell? ⟨gy, 7, none⟩ = some (.slice none 0 0) := (blk_cell hy 7).trans rfl
  have hf7 := blk_frozen hy 7
  have hc8 : w.cell? ⟨gy, 8, none⟩ = some (.slice none 0 0) := (blk_cell hy 8).trans rfl
  have hf8 := blk_frozen hy 8
  have hl0 : w.cell? ⟨gl, 0, none⟩ = some (.slice none 0 0) := (blk_cell hl 0).trans rfl
  have hl1 := blk_frozen hl 0
  have he0 : w.cell? ⟨ge, 0, none⟩ = some (.int .i64 0) := (blk_cell he 0).trans rfl
  have he1 := blk_frozen he 0
  have m1 := n1.symm
  have m2 := n2.symm
  have m3 := n3.symm
  have HY := Aside0.mk hy
  have HL := Aside0.mk hl
  have HE := Aside0.mk he
  clear hy hl he
  go_wp2
  refine ⟨rfl, .panicking ({ v := .iface 31 (.int .i64 x), recovered := true } :: older), rfl, .tuple #[], by kernel_rfl, rfl, rfl, ?_, ?_, ?_, fun B h1 h2 h3 => ?_⟩
  · exact blk_far (blk_far (blk_put (cs' := zeroNode) (blk_put (cs' := zeroNode) (blk_put (cs' := zeroNode) (blk_put (cs' := zeroNode) (blk_put (cs' := zeroNode) (blk_put (cs' := zeroNode) (blk_put (cs' := zeroNode) (blk_put (cs' := zeroNode) (blk_put (cs' := zeroNode) HY.out 0 _ rfl) 1 _ rfl) 2 _ rfl) 3 _ rfl) 4 _ rfl) 5 _ rfl) 6 _ rfl) 7 _ rfl) 8 _ rfl) n1 _) n2 _
  · exact blk_far (blk_put (cs' := #[.slice none 0 0]) (blk_far (blk_far (blk_far (blk_far (blk_far (blk_far (blk_far (blk_far (blk_far HL.out m1 _) m1 _) m1 _) m1 _) m1 _) m1 _) m1 _) m1 _) m1 _) 0 _ rfl) n3 _
  · exact blk_put (cs' := #[.int .i64 x]) (blk_far (blk_far (blk_far (blk_far (blk_far (blk_far (blk_far (blk_far (blk_far (blk_far HE.out m2 _) m2 _) m2 _) m2 _) m2 _) m2 _) m2 _) m2 _) m2 _) m3 _) 0 _ rfl
  · exact below_at (below_at (below_at (below_at (below_at (below_at (below_at (below_at (below_at (below_at (below_at (Below.refl B w) h1) h1) h1) h1) h1) h1) h1) h1) h1) h2) h3
theorem five_zero {W : World} {g : Nat} (h : W.heap[g]? = some (.cells #[.int .i64 0, .int .i64 0, .int .i64 0, .int .i64 0, .bool false, .int .i64 0, .slice none 0 0, .slice none 0 0, .slice none 0 0] 26 (0, 0))) : W.heap[g]? = some (.cells zeroNode 26 (0, 0)) := h
theorem new_keeps {W : World} {g : Nat} {o : Obj} (h : W.heap[g]? = some o) (o' : Obj) : (W.alloc o').heap[g]? = some o := (Below.heap_alloc W o' g (Array.getElem?_eq_some_iff.1 h).1).trans h
theorem new4 (w : World) (o1 o2 o3 o4 : Obj) : Below w.heap.size w ((((w.alloc o1).alloc o2).alloc o3).alloc o4) ∧ ((((w.alloc o1).alloc o2).alloc o3).alloc o4).heap.size = w.heap.size + 4 ∧ ((((w.alloc o1).alloc o2).alloc o3).alloc o4).heap[w.heap.size]? = some o1 ∧ ((((w.alloc o1).alloc o2).alloc o3).alloc o4).heap[w.heap.size + 1]? = some o2 ∧ ((((w.alloc o1).alloc o2).alloc o3).alloc o4).heap[w.heap.size + 1 + 1]? = some o3 ∧ ((((w.alloc o1).alloc o2).alloc o3).alloc o4).heap[w.heap.size + 1 + 1 + 1]? = some o4 := by
  refine ⟨(below_alloc (below_alloc (below_alloc (below_alloc (Below.refl _ _) _) _) _) _), by simp, ?_, ?_, ?_, ?_⟩
  · have h := x_alloc_new w o1
    rw [show w.heap.size = w.heap.size by simp] at h
    exact (new_keeps (new_keeps (new_keeps h _) _) _)
  · have h := x_alloc_new (w.alloc o1) o2
    rw [show (w.alloc o1).heap.size = w.heap.size + 1 by simp] at h
    exact (new_keeps (new_keeps h _) _)
  · have h := x_alloc_new ((w.alloc o1).alloc o2) o3
    rw [show ((w.alloc o1).alloc o2).heap.size = w.heap.size + 1 + 1 by simp] at h
    exact (new_keeps h _)
  · have h := x_alloc_new (((w.alloc o1).alloc o2).alloc o3) o4
    rw [show (((w.alloc o1).alloc o2).alloc o3).heap.size = w.heap.size + 1 + 1 + 1 by simp] at h
    exact h
theorem new5 (w : World) (o1 o2 o3 o4 o5 : Obj) : Below w.heap.size w (((((w.alloc o1).alloc o2).alloc o3).alloc o4).alloc o5) ∧ (((((w.alloc o1).alloc o2).alloc o3).alloc o4).alloc o5).heap.size = w.heap.size + 5 ∧ (((((w.alloc o1).alloc o2).alloc o3).alloc o4).alloc o5).heap[w.heap.size]? = some o1 ∧ (((((w.alloc o1).alloc o2).alloc o3).alloc o4).alloc o5).heap[w.heap.size + 1]? = some o2 ∧ (((((w.alloc o1).alloc o2).alloc o3).alloc o4).alloc o5).heap[w.heap.size + 1 + 1]? = some o3 ∧ (((((w.alloc o1).alloc o2).alloc o3).alloc o4).alloc o5).heap[w.heap.size + 1 + 1 + 1]? = some o4 ∧ (((((w.alloc o1).alloc o2).alloc o3).alloc o4).alloc o5).heap[w.heap.size + 1 + 1 + 1 + 1]? = some o5 := by
  refine ⟨(below_alloc (below_alloc (below_alloc (below_alloc (below_alloc (Below.refl _ _) _) _) _) _) _), by simp, ?_, ?_, ?_, ?_, ?_⟩
  · have h := x_alloc_new w o1
    rw [show w.heap.size = w.heap.size by simp] at h
    exact (new_keeps (new_keeps (new_keeps (new_keeps h _) _) _) _)
  · have h := x_alloc_new (w.alloc o1) o2
    rw [show (w.alloc o1).heap.size = w.heap.size + 1 by simp] at h
    exact (new_keeps (new_keeps (new_keeps h _) _) _)
  · have h := x_alloc_new ((w.alloc o1).alloc o2) o3
    rw [show ((w.alloc o1).alloc o2).heap.size = w.heap.size + 1 + 1 by simp] at h
    exact (new_keeps (new_keeps h _) _)
  · have h := x_alloc_new (((w.alloc o1).alloc o2).alloc o3) o4
    rw [show (((w.alloc o1).alloc o2).alloc o3).heap.size = w.heap.size + 1 + 1 + 1 by simp] at h
    exact (new_keeps h _)
  · have h := x_alloc_new ((((w.alloc o1).alloc o2).alloc o3).alloc o4) o5
    rw [show ((((w.alloc o1).alloc o2).alloc o3).alloc o4).heap.size = w.heap.size + 1 + 1 + 1 + 1 by simp] at h
    exact h
end Go.Proofs.Ytfpfpckocemmdaa.P
end
section
namespace Go.Proofs.Ytfpfpckocemmdaa.P
open Go.RowKit Go.Proofs.YtfpfpckocemmdaaW.PrintWords Go.Proofs.YtfpfpckocemmdaaW.PrintLast Go.Proofs.YtfpfpckocemmdaaW.PrintMore
set_option linter.unusedVariables false
set_option linter.unusedSimpArgs false
def Res (w : World) (base : Nat) (x : Nod) (v6 v7 v8 v9 : Value) : Prop := ∃ (P6 P7 P8 P9 : Nat → Prop),
  Kd.R Kd.string 9 w base P6 v6 x.log ∧ Kd.R (Kd.int .i64) 3 w base P7 v7 x.acks ∧ Kd.S k66 66 w base P8 v8 x.votes ∧ Kd.S k28 28 w base P9 v9 x.told ∧
  (∀ k, P6 k → ¬ P7 k ∧ ¬ P8 k ∧ ¬ P9 k) ∧ (∀ k, P7 k → ¬ P8 k ∧ ¬ P9 k) ∧ (∀ k, P8 k → ¬ P9 k)
def zeroNod : Nod := ⟨0, 0, 0, 0, false, 0, [], [], [], []⟩
theorem res_zero (w : World) (base : Nat) : Res w base zeroNod (.slice none 0 0) (.slice none 0 0) (.slice none 0 0) (.slice none 0 0) := ⟨fun _ => False, fun _ => False, fun _ => False, fun _ => False, Kd.R_nil _ _ _ _ _, Kd.R_nil _ _ _ _ _, Kd.S_nil _ _ _ _ _, Kd.S_nil _ _ _ _ _, fun _ h => h.elim, fun _ h => h.elim, fun _ h => h.elim⟩
theorem Nd.res2 {w : World} {base g : Nat} {ok : Nat → Prop} {x : Nod} (h : Nd w base g ok x) : ∃ A6 c6 A7 c7 A8 c8 A9 c9, w.heap[g]? = some (.cells (x.cells (.slice A6 x.log.length c6) (.slice A7 x.acks.length c7) (.slice A8 x.votes.length c8) (.slice A9 x.told.length c9)) 57 (0, 0)) ∧
    ∀ w1 : World, (∀ k, base ≤ k → k < w.heap.size → k ≠ g → w1.heap[k]? = w.heap[k]?) → Res w1 base x (.slice A6 x.log.length c6) (.slice A7 x.acks.length c7) (.slice A8 x.votes.length c8) (.slice A9 x.told.length c9) := by
  obtain ⟨v6, v7, v8, v9, P6, P7, P8, P9, hb, hg, hok, h6, h7, h8, h9, ho, a6, a7, a8⟩ := h.bound
  obtain ⟨A6, c6, rfl⟩ := Kd.R_slice h6
  obtain ⟨A7, c7, rfl⟩ := Kd.R_slice h7
  obtain ⟨A8, c8, rfl⟩ := Kd.S_slice h8
  obtain ⟨A9, c9, rfl⟩ := Kd.S_slice h9
  refine ⟨A6, c6, A7, c7, A8, c8, A9, c9, hb, fun w1 hm => ?_⟩
  exact ⟨P6, P7, P8, P9, Kd.R_step h6 (fun k hk hl => hm k (ho k (.inl hk)).1.2.2 hl (ho k (.inl hk)).2), Kd.R_step h7 (fun k hk hl => hm k (ho k (.inr (.inl hk))).1.2.2 hl (ho k (.inr (.inl hk))).2), Kd.S_step h8 (fun k hk hl => hm k (ho k (.inr (.inr (.inl hk)))).1.2.2 hl (ho k (.inr (.inr (.inl hk)))).2), Kd.S_step h9 (fun k hk hl => hm k (ho k (.inr (.inr (.inr hk)))).1.2.2 hl (ho k (.inr (.inr (.inr hk)))).2), a6, a7, a8⟩
theorem Res.lower {w : World} {b b' : Nat} {x : Nod} {v6 v7 v8 v9 : Value} (h : Res w b x v6 v7 v8 v9) (hb : b' ≤ b) : Res w b' x v6 v7 v8 v9 := by
  obtain ⟨P6, P7, P8, P9, h6, h7, h8, h9, a6, a7, a8⟩ := h
  exact ⟨P6, P7, P8, P9, Kd.R_lower h6 hb, Kd.R_lower h7 hb, Kd.S_lower h8 hb, Kd.S_lower h9 hb, a6, a7, a8⟩
theorem below_drew_any {B : Nat} {w W : World} (h : Below B w W) : Below B w W.drew := ⟨h.os, h.tape, h.output, h.size, h.block⟩
theorem drew_heap_ (W : World) : W.drew.heap = W.heap := rfl
theorem stores_ret {w7 : World} {gy gl ge : Nat} {b0 b1 b2 b3 b4 b5 b6 b7 b8 c9 c0 : Value} (hy : w7.heap[gy]? = some (.cells #[b0, b1, b2, b3, b4, b5, b6, b7, b8] 26 (0, 0))) (hl : w7.heap[gl]? = some (.cells #[c9] 30 (0, 0))) (he : w7.heap[ge]? = some (.cells #[c0] 31 (0, 0))) (nyl : gy ≠ gl) (nye : gy ≠ ge) (nle : gl ≠ ge) (a0 a1 a2 a3 a4 a5 a6 a7 a8 v9 x : Value) :
    (((((((((((w7.setCell ⟨gy, 0, none⟩ a0).setCell ⟨gy, 1, none⟩ a1).setCell ⟨gy, 2, none⟩ a2).setCell ⟨gy, 3, none⟩ a3).setCell ⟨gy, 4, none⟩ a4).setCell ⟨gy, 5, none⟩ a5).setCell ⟨gy, 6, none⟩ a6).setCell ⟨gy, 7, none⟩ a7).setCell ⟨gy, 8, none⟩ a8).setCell ⟨gl, 0, none⟩ v9).setCell ⟨ge, 0, none⟩ x).drew.heap[gy]? = some (.cells #[a0, a1, a2, a3, a4, a5, a6, a7, a8] 26 (0, 0)) ∧ (((((((((((w7.setCell ⟨gy, 0, none⟩ a0).setCell ⟨gy, 1, none⟩ a1).setCell ⟨gy, 2, none⟩ a2).setCell ⟨gy, 3, none⟩ a3).setCell ⟨gy, 4, none⟩ a4).setCell ⟨gy, 5, none⟩ a5).setCell ⟨gy, 6, none⟩ a6).setCell ⟨gy, 7, none⟩ a7).setCell ⟨gy, 8, none⟩ a8).setCell ⟨gl, 0, none⟩ v9).setCell ⟨ge, 0, none⟩ x).drew.cell? ⟨gl, 0, none⟩ = some v9 ∧ (((((((((((w7.setCell ⟨gy, 0, none⟩ a0).setCell ⟨gy, 1, none⟩ a1).setCell ⟨gy, 2, none⟩ a2).setCell ⟨gy, 3, none⟩ a3).setCell ⟨gy, 4, none⟩ a4).setCell ⟨gy, 5, none⟩ a5).setCell ⟨gy, 6, none⟩ a6).setCell ⟨gy, 7, none⟩ a7).setCell ⟨gy, 8, none⟩ a8).setCell ⟨gl, 0, none⟩ v9).setCell ⟨ge, 0, none⟩ x).drew.cell? ⟨ge, 0, none⟩ = some x ∧
    (∀ k, k ≠ gy → k ≠ gl → k ≠ ge → (((((((((((w7.setCell ⟨gy, 0, none⟩ a0).setCell ⟨gy, 1, none⟩ a1).setCell ⟨gy, 2, none⟩ a2).setCell ⟨gy, 3, none⟩ a3).setCell ⟨gy, 4, none⟩ a4).setCell ⟨gy, 5, none⟩ a5).setCell ⟨gy, 6, none⟩ a6).setCell ⟨gy, 7, none⟩ a7).setCell ⟨gy, 8, none⟩ a8).setCell ⟨gl, 0, none⟩ v9).setCell ⟨ge, 0, none⟩ x).drew.heap[k]? = w7.heap[k]?) ∧ (∀ B, B ≤ gy → B ≤ gl → B ≤ ge → Below B w7 (((((((((((w7.setCell ⟨gy, 0, none⟩ a0).setCell ⟨gy, 1, none⟩ a1).setCell ⟨gy, 2, none⟩ a2).setCell ⟨gy, 3, none⟩ a3).setCell ⟨gy, 4, none⟩ a4).setCell ⟨gy, 5, none⟩ a5).setCell ⟨gy, 6, none⟩ a6).setCell ⟨gy, 7, none⟩ a7).setCell ⟨gy, 8, none⟩ a8).setCell ⟨gl, 0, none⟩ v9).setCell ⟨ge, 0, none⟩ x).drew) := by
  have p0 := blk_put (cs' := #[a0, b1, b2, b3, b4, b5, b6, b7, b8]) hy 0 a0 rfl
  have p1 := blk_put (cs' := #[a0, a1, b2, b3, b4, b5, b6, b7, b8]) p0 1 a1 rfl
  have p2 := blk_put (cs' := #[a0, a1, a2, b3, b4, b5, b6, b7, b8]) p1 2 a2 rfl
  have p3 := blk_put (cs' := #[a0, a1, a2, a3, b4, b5, b6, b7, b8]) p2 3 a3 rfl
  have p4 := blk_put (cs' := #[a0, a1, a2, a3, a4, b5, b6, b7, b8]) p3 4 a4 rfl
  have p5 := blk_put (cs' := #[a0, a1, a2, a3, a4, a5, b6, b7, b8]) p4 5 a5 rfl
  have p6 := blk_put (cs' := #[a0, a1, a2, a3, a4, a5, a6, b7, b8]) p5 6 a6 rfl
  have p7 := blk_put (cs' := #[a0, a1, a2, a3, a4, a5, a6, a7, b8]) p6 7 a7 rfl
  have p8 := blk_put (cs' := #[a0, a1, a2, a3, a4, a5, a6, a7, a8]) p7 8 a8 rfl
  have y1 := blk_far (p := ⟨ge, 0, none⟩) (blk_far (p := ⟨gl, 0, none⟩) p8 nyl v9) nye x
  have l_0 := blk_far (p := ⟨gy, 0, none⟩) hl nyl.symm a0
  have l_1 := blk_far (p := ⟨gy, 1, none⟩) l_0 nyl.symm a1
  have l_2 := blk_far (p := ⟨gy, 2, none⟩) l_1 nyl.symm a2
  have l_3 := blk_far (p := ⟨gy, 3, none⟩) l_2 nyl.symm a3
  have l_4 := blk_far (p := ⟨gy, 4, none⟩) l_3 nyl.symm a4
  have l_5 := blk_far (p := ⟨gy, 5, none⟩) l_4 nyl.symm a5
  have l_6 := blk_far (p := ⟨gy, 6, none⟩) l_5 nyl.symm a6
  have l_7 := blk_far (p := ⟨gy, 7, none⟩) l_6 nyl.symm a7
  have l_8 := blk_far (p := ⟨gy, 8, none⟩) l_7 nyl.symm a8
  have e_0 := blk_far (p := ⟨gy, 0, none⟩) he nye.symm a0
  have e_1 := blk_far (p := ⟨gy, 1, none⟩) e_0 nye.symm a1
  have e_2 := blk_far (p := ⟨gy, 2, none⟩) e_1 nye.symm a2
  have e_3 := blk_far (p := ⟨gy, 3, none⟩) e_2 nye.symm a3
  have e_4 := blk_far (p := ⟨gy, 4, none⟩) e_3 nye.symm a4
  have e_5 := blk_far (p := ⟨gy, 5, none⟩) e_4 nye.symm a5
  have e_6 := blk_far (p := ⟨gy, 6, none⟩) e_5 nye.symm a6
  have e_7 := blk_far (p := ⟨gy, 7, none⟩) e_6 nye.symm a7
  have e_8 := blk_far (p := ⟨gy, 8, none⟩) e_7 nye.symm a8
  have l9 := blk_far (p := ⟨ge, 0, none⟩) (blk_put (cs' := #[v9]) l_8 0 v9 rfl) nle x
  have e9 := blk_put (cs' := #[x]) (blk_far (p := ⟨gl, 0, none⟩) e_8 nle.symm v9) 0 x rfl
  refine ⟨blk_drew y1, (blk_cell (blk_drew l9) 0).trans rfl, (blk_cell (blk_drew e9) 0).trans rfl, ?_, ?_⟩
  · intro k h1 h2 h3
    have h := fun (W : World) (v : Value) (j : Nat) => Below.heap_setCell W ⟨gy, j, none⟩ v k h1
    have hl' := fun (W : World) (v : Value) => Below.heap_setCell W ⟨gl, 0, none⟩ v k h2
    have he' := fun (W : World) (v : Value) => Below.heap_setCell W ⟨ge, 0, none⟩ v k h3
    rw [drew_heap_, he', hl', h, h, h, h, h, h, h, h, h]
  · intro B h1 h2 h3
    have k0 := below_at (j := 0) (v := a0) (Below.refl B w7) h1
    have k1 := below_at (j := 1) (v := a1) k0 h1
    have k2 := below_at (j := 2) (v := a2) k1 h1
    have k3 := below_at (j := 3) (v := a3) k2 h1
    have k4 := below_at (j := 4) (v := a4) k3 h1
    have k5 := below_at (j := 5) (v := a5) k4 h1
    have k6 := below_at (j := 6) (v := a6) k5 h1
    have k7 := below_at (j := 7) (v := a7) k6 h1
    have k8 := below_at (j := 8) (v := a8) k7 h1
    have h := below_at (j := 0) (v := x) (below_at (j := 0) (v := v9) k8 h2) h3
    exact below_drew_any h
theorem run_loadVar_one {P : Program} (w : World) (g ty : Nat) (v : Value) (d : TypeDesc) (hc : w.cell? ⟨g, 0, none⟩ = some v) (hu : P.underlying ty = some d) (hd : (match d with | .struct _ | .array _ _ => true | _ => false) = false) : (loadVar ty ⟨g, 0, none⟩).run P w = .ok v w := by
  unfold loadVar isAgg
  simp only [Sem.run_bind, run_underlying hu, Result.andThen_ok]
  cases d <;> simp_all [go_sem]
theorem results_8 {fn : Func} {p q r : Tmp} (h : fn.results = #[.cell p 26, .cell q 30, .cell r 31]) (tmps : Array Value) (w : World) (gy gl ge : Nat) (t : TypeId) (cs : Array Value) (fr : Nat × Nat) (v9 : Value) (x : Int)
    (h1 : tmps.getD p undef = .pointer (some ⟨gy, 0, none⟩)) (h2 : tmps.getD q undef = .pointer (some ⟨gl, 0, none⟩)) (h3 : tmps.getD r undef = .pointer (some ⟨ge, 0, none⟩)) (hg : w.heap[gy]? = some (.cells cs t fr)) (hs : cs.size = 9)
    (hl : w.cell? ⟨gl, 0, none⟩ = some v9) (he : w.cell? ⟨ge, 0, none⟩ = some (.int .i64 x)) :
    (results fn tmps).run Try.prog w = .ok (.tuple #[.agg cs, v9, .int .i64 x]) w := by
  have h1' : tmps[p]?.getD undef = .pointer (some ⟨gy, 0, none⟩) := by simpa using h1
  have h2' : tmps[q]?.getD undef = .pointer (some ⟨gl, 0, none⟩) := by simpa using h2
  have h3' : tmps[r]?.getD undef = .pointer (some ⟨ge, 0, none⟩) := by simpa using h3
  have hi : (Try.prog.info? 26).map (·.size) = some cs.size := by rw [hs]; kernel_rfl
  have r1 := run_loadVar_row (P := Try.prog) w gy t 26 cs fr _ hg Try.underlying26 rfl hi
  have r2 := run_loadVar_one (P := Try.prog) w gl 30 v9 _ hl Try.underlying30 rfl
  have r3 := run_loadVar_one (P := Try.prog) w ge 31 _ _ he Try.underlying31 rfl
  simp [results, h, h1', h2', h3', asAddr, r1, r2, r3]
set_option maxHeartbeats 8000000 in
set_option maxRecDepth 100000 in
theorem handle_not (id n view last : Int) (works : Bool) (commit : Int) (log : List ByteArray) (acks : List Int) (votes : List S66) (told : List S28) (A6 A7 A8 : Option Addr) (c6 c7 c8 : Nat) (w : World) (h6 : Kd.C Kd.string w A6 log.length log) (l6 : log.length ≤ c6) (h7 : Kd.C (Kd.int .i64) w A7 acks.length acks) (l7 : acks.length ≤ c7) (h8 : Kd.C k66 w A8 votes.length votes) (l8 : votes.length ≤ c8)
    (hl : log.length < 4398046511104) (ha : acks.length < 4398046511104) (hvl : votes.length < 4398046511104) (hv : ∀ v, v ∈ votes → v.f3.length < 4398046511104 ∧ (Lit.int .i64 v.f0).wf = true) (m : S28) (A : Option Addr) (c : Nat) (his : isB ⟨id, n, view, last, works, commit, log, acks, votes, told⟩ = false) :
    Calls Try.prog 8 #[.agg #[.int .i64 id, .int .i64 n, .int .i64 view, .int .i64 last, .bool works, .int .i64 commit, .slice A6 log.length c6, .slice A7 acks.length c7, .slice A8 votes.length c8], .agg #[.int .i64 m.f0, .int .i64 m.f1, .int .i64 m.f2, .int .i64 m.f3, .int .i64 m.f4, .int .i64 m.f5, .int .i64 m.f6, .slice A m.f7.length c]] w fun e w' => ∃ v6 v7 v8 v9, e = .returned (.tuple #[.agg #[.int .i64 zeroNod.id, .int .i64 zeroNod.n, .int .i64 zeroNod.view, .int .i64 zeroNod.last, .bool zeroNod.works, .int .i64 zeroNod.commit, v6, v7, v8], v9, .int .i64 1]) ∧ Res w' w.heap.size zeroNod v6 v7 v8 v9 ∧ Below w.heap.size w w' := by
  have hu26 := Try.underlying26
  have hu28 := Try.underlying28
  have HO := Aside0.mk (open_not id n view last works commit log acks votes told A6 A7 A8 c6 c7 c8 (((((w.alloc (.cells #[.int .i64 id, .int .i64 n, .int .i64 view, .int .i64 last, .bool works, .int .i64 commit, .slice A6 log.length c6, .slice A7 acks.length c7, .slice A8 votes.length c8] 26)).alloc (.cells #[.int .i64 m.f0, .int .i64 m.f1, .int .i64 m.f2, .int .i64 m.f3, .int .i64 m.f4, .int .i64 m.f5, .int .i64 m.f6, .slice A m.f7.length c] 28)).alloc (.cells #[.int .i64 0, .int .i64 0, .int .i64 0, .int .i64 0, .bool false, .int .i64 0, .slice none 0 0, .slice none 0 0, .slice none 0 0] 26)).alloc (.cells #[.slice none 0 0] 30)).alloc (.cells #[.int .i64 0] 31)) (Kd.C_alloc (Kd.C_alloc (Kd.C_alloc (Kd.C_alloc (Kd.C_alloc h6 _) _) _) _) _) l6 (Kd.C_alloc (Kd.C_alloc (Kd.C_alloc (Kd.C_alloc (Kd.C_alloc h7 _) _) _) _) _) l7 (Kd.C_alloc (Kd.C_alloc (Kd.C_alloc (Kd.C_alloc (Kd.C_alloc h8 _) _) _) _) _) l8 hl ha hvl hv his)
  have HB3 := Aside0.mk (show (((((w.alloc (.cells #[.int .i64 id, .int .i64 n, .int .i64 view, .int .i64 last, .bool works, .int .i64 commit, .slice A6 log.length c6, .slice A7 acks.length c7, .slice A8 votes.length c8] 26)).alloc (.cells #[.int .i64 m.f0, .int .i64 m.f1, .int .i64 m.f2, .int .i64 m.f3, .int .i64 m.f4, .int .i64 m.f5, .int .i64 m.f6, .slice A m.f7.length c] 28)).alloc (.cells #[.int .i64 0, .int .i64 0, .int .i64 0, .int .i64 0, .bool false, .int .i64 0, .slice none 0 0, .slice none 0 0, .slice none 0 0] 26)).alloc (.cells #[.slice none 0 0] 30)).alloc (.cells #[.int .i64 0] 31)).heap[w.heap.size + 1 + 1]? = some (.cells zeroNode 26 (0, 0)) from blk_alloc (blk_alloc (by have h := x_alloc_new ((w.alloc (.cells #[.int .i64 id, .int .i64 n, .int .i64 view, .int .i64 last, .bool works, .int .i64 commit, .slice A6 log.length c6, .slice A7 acks.length c7, .slice A8 votes.length c8] 26)).alloc (.cells #[.int .i64 m.f0, .int .i64 m.f1, .int .i64 m.f2, .int .i64 m.f3, .int .i64 m.f4, .int .i64 m.f5, .int .i64 m.f6, .slice A m.f7.length c] 28)) (.cells #[.int .i64 0, .int .i64 0, .int .i64 0, .int .i64 0, .bool false, .int .i64 0, .slice none 0 0, .slice none 0 0, .slice none 0 0] 26); simpa [zeroNode] using h) _) _)
  have HB4 := Aside0.mk (show (((((w.alloc (.cells #[.int .i64 id, .int .i64 n, .int .i64 view, .int .i64 last, .bool works, .int .i64 commit, .slice A6 log.length c6, .slice A7 acks.length c7, .slice A8 votes.length c8] 26)).alloc (.cells #[.int .i64 m.f0, .int .i64 m.f1, .int .i64 m.f2, .int .i64 m.f3, .int .i64 m.f4, .int .i64 m.f5, .int .i64 m.f6, .slice A m.f7.length c] 28)).alloc (.cells #[.int .i64 0, .int .i64 0, .int .i64 0, .int .i64 0, .bool false, .int .i64 0, .slice none 0 0, .slice none 0 0, .slice none 0 0] 26)).alloc (.cells #[.slice none 0 0] 30)).alloc (.cells #[.int .i64 0] 31)).heap[w.heap.size + 1 + 1 + 1]? = some (.cells #[.slice none 0 0] 30 (0, 0)) from blk_alloc (by have h := x_alloc_new (((w.alloc (.cells #[.int .i64 id, .int .i64 n, .int .i64 view, .int .i64 last, .bool works, .int .i64 commit, .slice A6 log.length c6, .slice A7 acks.length c7, .slice A8 votes.length c8] 26)).alloc (.cells #[.int .i64 m.f0, .int .i64 m.f1, .int .i64 m.f2, .int .i64 m.f3, .int .i64 m.f4, .int .i64 m.f5, .int .i64 m.f6, .slice A m.f7.length c] 28)).alloc (.cells #[.int .i64 0, .int .i64 0, .int .i64 0, .int .i64 0, .bool false, .int .i64 0, .slice none 0 0, .slice none 0 0, .slice none 0 0] 26)) (.cells #[.slice none 0 0] 30); simpa using h) _)
  have HB5 := Aside0.mk (show (((((w.alloc (.cells #[.int .i64 id, .int .i64 n, .int .i64 view, .int .i64 last, .bool works, .int .i64 commit, .slice A6 log.length c6, .slice A7 acks.length c7, .slice A8 votes.length c8] 26)).alloc (.cells #[.int .i64 m.f0, .int .i64 m.f1, .int .i64 m.f2, .int .i64 m.f3, .int .i64 m.f4, .int .i64 m.f5, .int .i64 m.f6, .slice A m.f7.length c] 28)).alloc (.cells #[.int .i64 0, .int .i64 0, .int .i64 0, .int .i64 0, .bool false, .int .i64 0, .slice none 0 0, .slice none 0 0, .slice none 0 0] 26)).alloc (.cells #[.slice none 0 0] 30)).alloc (.cells #[.int .i64 0] 31)).heap[w.heap.size + 1 + 1 + 1 + 1]? = some (.cells #[.int .i64 0] 31 (0, 0)) from by have h := x_alloc_new ((((w.alloc (.cells #[.int .i64 id, .int .i64 n, .int .i64 view, .int .i64 last, .bool works, .int .i64 commit, .slice A6 log.length c6, .slice A7 acks.length c7, .slice A8 votes.length c8] 26)).alloc (.cells #[.int .i64 m.f0, .int .i64 m.f1, .int .i64 m.f2, .int .i64 m.f3, .int .i64 m.f4, .int .i64 m.f5, .int .i64 m.f6, .slice A m.f7.length c] 28)).alloc (.cells #[.int .i64 0, .int .i64 0, .int .i64 0, .int .i64 0, .bool false, .int .i64 0, .slice none 0 0, .slice none 0 0, .slice none 0 0] 26)).alloc (.cells #[.slice none 0 0] 30)) (.cells #[.int .i64 0] 31); simpa using h)
  clear h6 l6 h7 l7 h8 l8 hl ha hvl hv his
  go_enter_defers Try.func8, Try.ntmps8
  go_wp2_with (first | (go_at_call 21; refine HO.out.mono ?_; rintro e w6 ⟨rfl, hb6⟩; have HB6 := Aside0.mk hb6; clear hb6))
  have sz : (((((w.alloc (.cells #[.int .i64 id, .int .i64 n, .int .i64 view, .int .i64 last, .bool works, .int .i64 commit, .slice A6 log.length c6, .slice A7 acks.length c7, .slice A8 votes.length c8] 26)).alloc (.cells #[.int .i64 m.f0, .int .i64 m.f1, .int .i64 m.f2, .int .i64 m.f3, .int .i64 m.f4, .int .i64 m.f5, .int .i64 m.f6, .slice A m.f7.length c] 28)).alloc (.cells #[.int .i64 0, .int .i64 0, .int .i64 0, .int .i64 0, .bool false, .int .i64 0, .slice none 0 0, .slice none 0 0, .slice none 0 0] 26)).alloc (.cells #[.slice none 0 0] 30)).alloc (.cells #[.int .i64 0] 31)).heap.size = w.heap.size + 5 := by simp
  have hby := (HB6.out.block (w.heap.size + 1 + 1) (by rw [sz]; omega)).trans HB3.out
  have hbl := (HB6.out.block (w.heap.size + 1 + 1 + 1) (by rw [sz]; omega)).trans HB4.out
  have hbe := (HB6.out.block (w.heap.size + 1 + 1 + 1 + 1) (by rw [sz]; omega)).trans HB5.out
  refine leaves_cons (f := 20) (args := #[.pointer (some ⟨w.heap.size + 1 + 1, 0, none⟩), .pointer (some ⟨w.heap.size + 1 + 1 + 1, 0, none⟩), .pointer (some ⟨w.heap.size + 1 + 1 + 1 + 1, 0, none⟩)]) (by simp) (by kernel_rfl) ?_
  refine (caught_panicking (w.heap.size + 1 + 1) (w.heap.size + 1 + 1 + 1) (w.heap.size + 1 + 1 + 1 + 1) 1 [] w6 hby hbl hbe (by omega) (by omega) (by omega)).mono ?_
  rintro e u' w7 ⟨rfl, rfl, ky, kl, ke, kb⟩
  refine ⟨_, results_8 rfl _ _ (w.heap.size + 1 + 1) (w.heap.size + 1 + 1 + 1) (w.heap.size + 1 + 1 + 1 + 1) 26 zeroNode (0, 0) (.slice none 0 0) 1 rfl rfl rfl ky rfl ((blk_cell kl 0).trans rfl) ((blk_cell ke 0).trans rfl), .slice none 0 0, .slice none 0 0, .slice none 0 0, .slice none 0 0, rfl, res_zero _ _, ?_⟩
  have hb1 : Below w.heap.size w w6 := below_step (below_alloc (below_alloc (below_alloc (below_alloc (below_alloc (Below.refl _ _) _) _) _) _) _) HB6.out
  exact hb1.trans (kb w.heap.size (by omega) (by omega) (by omega))
end Go.Proofs.Ytfpfpckocemmdaa.P
end
section
namespace Go.Proofs.Ytfpfpckocemmdaa.P
open Go.RowKit Go.Proofs.YtfpfpckocemmdaaW.PrintWords Go.Proofs.YtfpfpckocemmdaaW.PrintLast Go.Proofs.YtfpfpckocemmdaaW.PrintMore
set_option linter.unusedVariables false
set_option linter.unusedSimpArgs false
theorem withinB_iff (a m : Int) : withinB a m = true ↔ 0 ≤ a ∧ a ≤ m := by simp [withinB]
theorem loggedB_len {l : List ByteArray} {c : Int} (h : loggedB l c = true) : l.length ≤ 60 ∧ 0 ≤ c ∧ c ≤ (l.length : Int) ∧ l.any longB = false := by
  unfold loggedB at h
  simp only [Bool.and_eq_true, decide_eq_true_eq, withinB_iff, Bool.not_eq_true'] at h
  exact ⟨by omega, h.2.1.1, h.2.1.2, h.2.2⟩
theorem sizeB_iff (n : Int) : sizeB n = true ↔ n = 1 ∨ n = 3 ∨ n = 5 ∨ n = 7 := by
  simp [sizeB, or_assoc]
theorem votesB_all (n view : Int) : ∀ (l : List S66) (seen : List Int), votesB n view l seen = true → ∀ v, v ∈ l → v.f0 ∉ seen ∧ 0 ≤ v.f0 ∧ v.f0 ≤ n - 1 ∧ 0 ≤ v.f1 ∧ v.f1 ≤ view ∧ loggedB v.f3 v.f2 = true := by
  intro l
  induction l with
  | nil => intro _ _ v hv; cases hv
  | cons u l ih =>
    intro seen h v hv
    unfold votesB at h
    split at h
    · cases h
    · rename_i hc
      simp only [Bool.or_eq_true, Bool.not_eq_true', not_or, Bool.not_eq_true, Bool.not_eq_false] at hc
      obtain ⟨⟨⟨h1, h2⟩, h3⟩, h4⟩ := hc
      rw [withinB_iff] at h2 h3
      rcases List.mem_cons.1 hv with rfl | hv
      · exact ⟨by intro hm; rw [List.contains_iff_mem.2 hm] at h1; exact Bool.noConfusion h1, h2.1, h2.2, h3.1, h3.2, h4⟩
      · obtain ⟨k1, k2⟩ := ih _ h v hv
        exact ⟨fun hm => k1 (List.mem_cons_of_mem _ hm), k2⟩
theorem votesB_nodup (n view : Int) : ∀ (l : List S66) (seen : List Int), votesB n view l seen = true → (l.map (·.f0)).Nodup := by
  intro l
  induction l with
  | nil => intro _ _; simp
  | cons u l ih =>
    intro seen h
    have hall := votesB_all n view _ _ h
    unfold votesB at h
    split at h
    · cases h
    · rw [List.map_cons, List.nodup_cons]
      refine ⟨fun hm => ?_, ih _ h⟩
      obtain ⟨v, hv, e⟩ := List.mem_map.1 hm
      exact (votesB_all n view l _ h v hv).1 (by rw [e]; exact List.mem_cons_self)
structure Right (x : Nod) : Prop where
  size : x.n = 1 ∨ x.n = 3 ∨ x.n = 5 ∨ x.n = 7
  id0 : 0 ≤ x.id
  id1 : x.id < x.n
  view0 : 0 ≤ x.view
  view1 : x.view ≤ 1000000
  last0 : 0 ≤ x.last
  last1 : x.last ≤ x.view
  works : x.works = true → x.last = x.view
  log : loggedB x.log x.commit = true
  acks : (x.acks.length : Int) = x.n
  each : ∀ a, a ∈ x.acks → 0 ≤ a ∧ a ≤ (x.log.length : Int)
  count : (x.votes.length : Int) ≤ x.n
  votes : votesB x.n x.view x.votes [] = true
theorem right_of {x : Nod} (h : isB x = true) : Right x := by
  unfold isB frontB viewsB at h
  simp only [Bool.and_eq_true, decide_eq_true_eq, withinB_iff, sizeB_iff, Bool.or_eq_true, Bool.not_eq_true', List.all_eq_true] at h
  obtain ⟨⟨⟨⟨⟨⟨⟨h1, h2⟩, ⟨h3, h4⟩, h5⟩, h6⟩, h7⟩, h8⟩, h9⟩, h10⟩ := h
  exact ⟨h1, h2.1, by omega, h3.1, h3.2, h4.1, h4.2, fun hw => h5.elim (fun h => by rw [h] at hw; cases hw) id, h6, h7, h9, h8, h10⟩
theorem is_of {x : Nod} (h : Right x) : isB x = true := by
  unfold isB frontB viewsB
  simp only [Bool.and_eq_true, decide_eq_true_eq, withinB_iff, sizeB_iff, Bool.or_eq_true, Bool.not_eq_true', List.all_eq_true]
  refine ⟨⟨⟨⟨⟨⟨⟨h.size, h.id0, by have := h.id1; omega⟩, ⟨⟨h.view0, h.view1⟩, h.last0, h.last1⟩, ?_⟩, h.log⟩, h.acks⟩, h.count⟩, h.each⟩, h.votes⟩
  cases hw : x.works with
  | false => exact .inl rfl
  | true => exact .inr (h.works hw)
theorem Right.n7 {x : Nod} (h : Right x) : 1 ≤ x.n ∧ x.n ≤ 7 := by have := h.size; omega
theorem addTo_fresh (l : List S66) (v : S66) (h : v.f0 ∉ l.map (·.f0)) : addTo l v = l ++ [v] := by
  unfold addTo
  rw [List.filter_eq_self.2 (fun u hu => by simpa using fun e => h (List.mem_map.2 ⟨u, hu, e⟩))]
theorem readd_go (l : List S66) : ∀ (a : List S66), ((a ++ l).map (·.f0)).Nodup → l.foldl addTo a = a ++ l := by
  induction l with
  | nil => intro a _; simp
  | cons v l ih =>
    intro a h
    have hf : v.f0 ∉ a.map (·.f0) := by
      rw [List.map_append, List.nodup_append] at h
      intro hm
      exact h.2.2 _ hm _ (by simp) rfl
    rw [List.foldl_cons, addTo_fresh a v hf, ih (a ++ [v]) (by simpa using h)]
    simp
theorem readd_self (l : List S66) (h : (l.map (·.f0)).Nodup) : readd l = l := by
  have := readd_go l [] (by simpa using h)
  simpa [readd] using this
theorem Right.opened {x : Nod} (h : Right x) : x.opened = { x with told := [] } := by
  unfold Nod.opened
  rw [readd_self _ (votesB_nodup _ _ _ _ h.votes)]
theorem Right.good {x : Nod} (h : Right x) : Good x.opened := by
  rw [h.opened]
  have hl := (loggedB_len h.log).1
  have h7 := h.n7
  refine ⟨h7.1, by show x.n ≤ 1000; omega, h.id0, h.id1, h.view0, by show x.log.length ≤ 1000; omega, by have := h.acks; show x.acks.length = x.n.toNat; omega, by have := h.count; show x.votes.length ≤ 1000; omega, fun v hv => ?_, by show 0 ≤ 1000; omega⟩
  have hv2 := votesB_all _ _ _ _ h.votes v hv
  have h3 := (loggedB_len hv2.2.2.2.2.2).1
  exact ⟨hv2.2.1, by omega, by omega⟩
end Go.Proofs.Ytfpfpckocemmdaa.P
end
section
namespace Go.Proofs.Ytfpfpckocemmdaa.P
open Go.RowKit Go.Proofs.YtfpfpckocemmdaaW.PrintWords Go.Proofs.YtfpfpckocemmdaaW.PrintLast Go.Proofs.YtfpfpckocemmdaaW.PrintMore
set_option linter.unusedVariables false
set_option linter.unusedSimpArgs false
set_option maxHeartbeats 8000000 in
set_option maxRecDepth 100000 in
theorem handle_bad1 (id n view last : Int) (works : Bool) (commit : Int) (log : List ByteArray) (acks : List Int) (votes : List S66) (told : List S28) (A6 A7 A8 : Option Addr) (c6 c7 c8 : Nat) (w : World) (h6 : Kd.C Kd.string w A6 log.length log) (l6 : log.length ≤ c6) (h7 : Kd.C (Kd.int .i64) w A7 acks.length acks) (l7 : acks.length ≤ c7) (h8 : Kd.C k66 w A8 votes.length votes) (l8 : votes.length ≤ c8)
    (hl : log.length < 4398046511104) (ha : acks.length < 4398046511104) (hvl : votes.length < 4398046511104) (hv : ∀ v, v ∈ votes → v.f3.length < 4398046511104 ∧ (Lit.int .i64 v.f0).wf = true) (m : S28) (A : Option Addr) (c : Nat) (hm : Kd.C Kd.string w A m.f7.length m.f7) (lm : m.f7.length ≤ c)
    (his : isB ⟨id, n, view, last, works, commit, log, acks, votes, told⟩ = true) (hb : msgB m = false) :
    Calls Try.prog 8 #[.agg #[.int .i64 id, .int .i64 n, .int .i64 view, .int .i64 last, .bool works, .int .i64 commit, .slice A6 log.length c6, .slice A7 acks.length c7, .slice A8 votes.length c8], .agg #[.int .i64 m.f0, .int .i64 m.f1, .int .i64 m.f2, .int .i64 m.f3, .int .i64 m.f4, .int .i64 m.f5, .int .i64 m.f6, .slice A m.f7.length c]] w fun e w' => ∃ v6 v7 v8 v9, e = .returned (.tuple #[.agg #[.int .i64 zeroNod.id, .int .i64 zeroNod.n, .int .i64 zeroNod.view, .int .i64 zeroNod.last, .bool zeroNod.works, .int .i64 zeroNod.commit, v6, v7, v8], v9, .int .i64 1]) ∧ Res w' w.heap.size zeroNod v6 v7 v8 v9 ∧ Below w.heap.size w w' := by
  have hu26 := Try.underlying26
  have hu28 := Try.underlying28
  have hu57 := Try.underlying57
  have HR := Aside0.mk (right_of his)
  have hvs : votes.length ≤ 900 := by have h1 := HR.out.count; have h2 := HR.out.n7; simp only at h1 h2; omega
  have hvt : ∀ v, v ∈ votes → v.f3.length ≤ 1000 := fun v hv => by have h1 := (loggedB_len (votesB_all _ _ _ _ HR.out.votes v hv).2.2.2.2.2).1; omega
  obtain ⟨hw5, sz5, bx5, bm5, by5, bl5, be5⟩ := new5 w (.cells #[.int .i64 id, .int .i64 n, .int .i64 view, .int .i64 last, .bool works, .int .i64 commit, .slice A6 log.length c6, .slice A7 acks.length c7, .slice A8 votes.length c8] 26) (.cells #[.int .i64 m.f0, .int .i64 m.f1, .int .i64 m.f2, .int .i64 m.f3, .int .i64 m.f4, .int .i64 m.f5, .int .i64 m.f6, .slice A m.f7.length c] 28) (.cells #[.int .i64 0, .int .i64 0, .int .i64 0, .int .i64 0, .bool false, .int .i64 0, .slice none 0 0, .slice none 0 0, .slice none 0 0] 26) (.cells #[.slice none 0 0] 30) (.cells #[.int .i64 0] 31)
  have HW5 := Aside0.mk hw5
  have SZ5 := Aside0.mk sz5
  have BX5 := Aside0.mk bx5
  have BM5 := Aside0.mk bm5
  have BY5 := Aside0.mk (five_zero by5)
  have BL5 := Aside0.mk bl5
  have BE5 := Aside0.mk be5
  clear hw5 sz5 bx5 bm5 by5 bl5 be5
  have H21 := Aside0.mk (open_is id n view last works commit log acks votes told A6 A7 A8 c6 c7 c8 _ (Kd.C_below h6 HW5.out) l6 (Kd.C_below h7 HW5.out) l7 (Kd.C_below h8 HW5.out) l8 hl ha hvl hv his hvs hvt)
  have HMC := Aside0.mk (fun (W : World) (hb : Below w.heap.size w W) => Kd.C_below hm hb)
  have LM := Aside0.mk lm
  obtain ⟨k, hk⟩ : ∃ k, 101 ≤ k := ⟨101, Nat.le_refl _⟩
  have HMS := Aside0.mk (msg_of k hk m)
  rw [hb] at HMS
  clear hb
  have hpn : ∀ W : World, (Instr.panic (.iface 31 (.int .i64 1))).run Try.prog W = .halt (.panic (.iface 31 (.int .i64 1))) W := fun _ => rfl
  clear h6 l6 h7 l7 h8 l8 hl ha hvl hv his hvs hvt hm lm hk
  go_enter_defers Try.func8, Try.ntmps8
  go_wp2_with (first | (go_at_call 21; refine H21.out.mono ?_; rintro e w6 ⟨g, rfl, hN, hb6⟩; have HN6 := Aside0.mk hN; have HW6 := Aside0.mk (below_step HW5.out hb6); have SZ6 := Aside0.mk (show w.heap.size + 5 ≤ w6.heap.size by have h1 := hb6.size; have h2 := SZ5.out; omega); have BX6 := Aside0.mk ((hb6.block (w.heap.size) (by rw [SZ5.out]; omega)).trans BX5.out); have BM6 := Aside0.mk ((hb6.block (w.heap.size + 1) (by rw [SZ5.out]; omega)).trans BM5.out); have BY6 := Aside0.mk ((hb6.block (w.heap.size + 1 + 1) (by rw [SZ5.out]; omega)).trans BY5.out); have BL6 := Aside0.mk ((hb6.block (w.heap.size + 1 + 1 + 1) (by rw [SZ5.out]; omega)).trans BL5.out); have BE6 := Aside0.mk ((hb6.block (w.heap.size + 1 + 1 + 1 + 1) (by rw [SZ5.out]; omega)).trans BE5.out); have px0 : w6.cell? ⟨w.heap.size, 0, none⟩ = some (.int .i64 id) := blk_cell BX6.out 0; have px1 : w6.cell? ⟨w.heap.size, 1, none⟩ = some (.int .i64 n) := blk_cell BX6.out 1; have px2 : w6.cell? ⟨w.heap.size, 2, none⟩ = some (.int .i64 view) := blk_cell BX6.out 2; have pm0 : w6.cell? ⟨w.heap.size + 1, 0, none⟩ = some (.int .i64 m.f0) := blk_cell BM6.out 0; have pm1 : w6.cell? ⟨w.heap.size + 1, 1, none⟩ = some (.int .i64 m.f1) := blk_cell BM6.out 1; have pm2 : w6.cell? ⟨w.heap.size + 1, 2, none⟩ = some (.int .i64 m.f2) := blk_cell BM6.out 2; have pm3 : w6.cell? ⟨w.heap.size + 1, 3, none⟩ = some (.int .i64 m.f3) := blk_cell BM6.out 3; have pm4 : w6.cell? ⟨w.heap.size + 1, 4, none⟩ = some (.int .i64 m.f4) := blk_cell BM6.out 4; have pm5 : w6.cell? ⟨w.heap.size + 1, 5, none⟩ = some (.int .i64 m.f5) := blk_cell BM6.out 5; have pm6 : w6.cell? ⟨w.heap.size + 1, 6, none⟩ = some (.int .i64 m.f6) := blk_cell BM6.out 6; have pm7 : w6.cell? ⟨w.heap.size + 1, 7, none⟩ = some (.slice A m.f7.length c) := blk_cell BM6.out 7; clear hN hb6) | (go_at_call 22; refine (msg_Is.calls k m.f0 m.f1 m.f2 m.f3 m.f4 m.f5 m.f6 A c m.f7 false w6 (HMC.out _ HW6.out) LM.out HMS.out).mono ?_; rintro e w7 ⟨rfl, hb7⟩; have HN7 := Aside0.mk (HN6.out.below hb7); have HW7 := Aside0.mk (below_step HW6.out hb7); have SZ7 := Aside0.mk (show w.heap.size + 5 ≤ w7.heap.size by have h1 := hb7.size; have h2 := SZ6.out; omega); have BX7 := Aside0.mk ((hb7.block (w.heap.size) (by have := SZ6.out; omega)).trans BX6.out); have BM7 := Aside0.mk ((hb7.block (w.heap.size + 1) (by have := SZ6.out; omega)).trans BM6.out); have BY7 := Aside0.mk ((hb7.block (w.heap.size + 1 + 1) (by have := SZ6.out; omega)).trans BY6.out); have BL7 := Aside0.mk ((hb7.block (w.heap.size + 1 + 1 + 1) (by have := SZ6.out; omega)).trans BL6.out); have BE7 := Aside0.mk ((hb7.block (w.heap.size + 1 + 1 + 1 + 1) (by have := SZ6.out; omega)).trans BE6.out); have qx0 : w7.cell? ⟨w.heap.size, 0, none⟩ = some (.int .i64 id) := blk_cell BX7.out 0; have qx1 : w7.cell? ⟨w.heap.size, 1, none⟩ = some (.int .i64 n) := blk_cell BX7.out 1; have qx2 : w7.cell? ⟨w.heap.size, 2, none⟩ = some (.int .i64 view) := blk_cell BX7.out 2; have qm0 : w7.cell? ⟨w.heap.size + 1, 0, none⟩ = some (.int .i64 m.f0) := blk_cell BM7.out 0; have qm1 : w7.cell? ⟨w.heap.size + 1, 1, none⟩ = some (.int .i64 m.f1) := blk_cell BM7.out 1; have qm2 : w7.cell? ⟨w.heap.size + 1, 2, none⟩ = some (.int .i64 m.f2) := blk_cell BM7.out 2; have qm3 : w7.cell? ⟨w.heap.size + 1, 3, none⟩ = some (.int .i64 m.f3) := blk_cell BM7.out 3; have qm4 : w7.cell? ⟨w.heap.size + 1, 4, none⟩ = some (.int .i64 m.f4) := blk_cell BM7.out 4; have qm5 : w7.cell? ⟨w.heap.size + 1, 5, none⟩ = some (.int .i64 m.f5) := blk_cell BM7.out 5; have qm6 : w7.cell? ⟨w.heap.size + 1, 6, none⟩ = some (.int .i64 m.f6) := blk_cell BM7.out 6; have qm7 : w7.cell? ⟨w.heap.size + 1, 7, none⟩ = some (.slice A m.f7.length c) := blk_cell BM7.out 7; clear hb7))
  refine leaves_cons (f := 20) (args := #[.pointer (some ⟨w.heap.size + 1 + 1, 0, none⟩), .pointer (some ⟨w.heap.size + 1 + 1 + 1, 0, none⟩), .pointer (some ⟨w.heap.size + 1 + 1 + 1 + 1, 0, none⟩)]) (by simp) (by kernel_rfl) ?_
  refine (caught_panicking (w.heap.size + 1 + 1) (w.heap.size + 1 + 1 + 1) (w.heap.size + 1 + 1 + 1 + 1) 1 [] w7 BY7.out BL7.out BE7.out (by omega) (by omega) (by omega)).mono ?_
  rintro e u' w9 ⟨rfl, rfl, ky, kl, ke, kb⟩
  refine ⟨_, results_8 rfl _ _ (w.heap.size + 1 + 1) (w.heap.size + 1 + 1 + 1) (w.heap.size + 1 + 1 + 1 + 1) 26 zeroNode (0, 0) (.slice none 0 0) 1 rfl rfl rfl ky rfl ((blk_cell kl 0).trans rfl) ((blk_cell ke 0).trans rfl), .slice none 0 0, .slice none 0 0, .slice none 0 0, .slice none 0 0, rfl, res_zero _ _, ?_⟩
  exact HW7.out.trans (kb w.heap.size (by omega) (by omega) (by omega))
set_option maxHeartbeats 8000000 in
set_option maxRecDepth 100000 in
theorem handle_bad2 (id n view last : Int) (works : Bool) (commit : Int) (log : List ByteArray) (acks : List Int) (votes : List S66) (told : List S28) (A6 A7 A8 : Option Addr) (c6 c7 c8 : Nat) (w : World) (h6 : Kd.C Kd.string w A6 log.length log) (l6 : log.length ≤ c6) (h7 : Kd.C (Kd.int .i64) w A7 acks.length acks) (l7 : acks.length ≤ c7) (h8 : Kd.C k66 w A8 votes.length votes) (l8 : votes.length ≤ c8)
    (hl : log.length < 4398046511104) (ha : acks.length < 4398046511104) (hvl : votes.length < 4398046511104) (hv : ∀ v, v ∈ votes → v.f3.length < 4398046511104 ∧ (Lit.int .i64 v.f0).wf = true) (m : S28) (A : Option Addr) (c : Nat) (hm : Kd.C Kd.string w A m.f7.length m.f7) (lm : m.f7.length ≤ c)
    (his : isB ⟨id, n, view, last, works, commit, log, acks, votes, told⟩ = true) (hb : msgB m = true) (h_t : ¬ m.f2 = id) :
    Calls Try.prog 8 #[.agg #[.int .i64 id, .int .i64 n, .int .i64 view, .int .i64 last, .bool works, .int .i64 commit, .slice A6 log.length c6, .slice A7 acks.length c7, .slice A8 votes.length c8], .agg #[.int .i64 m.f0, .int .i64 m.f1, .int .i64 m.f2, .int .i64 m.f3, .int .i64 m.f4, .int .i64 m.f5, .int .i64 m.f6, .slice A m.f7.length c]] w fun e w' => ∃ v6 v7 v8 v9, e = .returned (.tuple #[.agg #[.int .i64 zeroNod.id, .int .i64 zeroNod.n, .int .i64 zeroNod.view, .int .i64 zeroNod.last, .bool zeroNod.works, .int .i64 zeroNod.commit, v6, v7, v8], v9, .int .i64 1]) ∧ Res w' w.heap.size zeroNod v6 v7 v8 v9 ∧ Below w.heap.size w w' := by
  have hu26 := Try.underlying26
  have hu28 := Try.underlying28
  have hu57 := Try.underlying57
  have HR := Aside0.mk (right_of his)
  have hvs : votes.length ≤ 900 := by have h1 := HR.out.count; have h2 := HR.out.n7; simp only at h1 h2; omega
  have hvt : ∀ v, v ∈ votes → v.f3.length ≤ 1000 := fun v hv => by have h1 := (loggedB_len (votesB_all _ _ _ _ HR.out.votes v hv).2.2.2.2.2).1; omega
  obtain ⟨hw5, sz5, bx5, bm5, by5, bl5, be5⟩ := new5 w (.cells #[.int .i64 id, .int .i64 n, .int .i64 view, .int .i64 last, .bool works, .int .i64 commit, .slice A6 log.length c6, .slice A7 acks.length c7, .slice A8 votes.length c8] 26) (.cells #[.int .i64 m.f0, .int .i64 m.f1, .int .i64 m.f2, .int .i64 m.f3, .int .i64 m.f4, .int .i64 m.f5, .int .i64 m.f6, .slice A m.f7.length c] 28) (.cells #[.int .i64 0, .int .i64 0, .int .i64 0, .int .i64 0, .bool false, .int .i64 0, .slice none 0 0, .slice none 0 0, .slice none 0 0] 26) (.cells #[.slice none 0 0] 30) (.cells #[.int .i64 0] 31)
  have HW5 := Aside0.mk hw5
  have SZ5 := Aside0.mk sz5
  have BX5 := Aside0.mk bx5
  have BM5 := Aside0.mk bm5
  have BY5 := Aside0.mk (five_zero by5)
  have BL5 := Aside0.mk bl5
  have BE5 := Aside0.mk be5
  clear hw5 sz5 bx5 bm5 by5 bl5 be5
  have H21 := Aside0.mk (open_is id n view last works commit log acks votes told A6 A7 A8 c6 c7 c8 _ (Kd.C_below h6 HW5.out) l6 (Kd.C_below h7 HW5.out) l7 (Kd.C_below h8 HW5.out) l8 hl ha hvl hv his hvs hvt)
  have HMC := Aside0.mk (fun (W : World) (hb : Below w.heap.size w W) => Kd.C_below hm hb)
  have LM := Aside0.mk lm
  obtain ⟨k, hk⟩ : ∃ k, 101 ≤ k := ⟨101, Nat.le_refl _⟩
  have HMS := Aside0.mk (msg_of k hk m)
  rw [hb] at HMS
  have ta : (m.f2 == id) = false := beq_eq_false_iff_ne.mpr h_t
  have tb : (m.f2 != id) = true := bne_iff_ne.mpr h_t
  clear hb h_t
  have hpn : ∀ W : World, (Instr.panic (.iface 31 (.int .i64 1))).run Try.prog W = .halt (.panic (.iface 31 (.int .i64 1))) W := fun _ => rfl
  clear h6 l6 h7 l7 h8 l8 hl ha hvl hv his hvs hvt hm lm hk
  go_enter_defers Try.func8, Try.ntmps8
  go_wp2_with (first | (go_at_call 21; refine H21.out.mono ?_; rintro e w6 ⟨g, rfl, hN, hb6⟩; have HN6 := Aside0.mk hN; have HW6 := Aside0.mk (below_step HW5.out hb6); have SZ6 := Aside0.mk (show w.heap.size + 5 ≤ w6.heap.size by have h1 := hb6.size; have h2 := SZ5.out; omega); have BX6 := Aside0.mk ((hb6.block (w.heap.size) (by rw [SZ5.out]; omega)).trans BX5.out); have BM6 := Aside0.mk ((hb6.block (w.heap.size + 1) (by rw [SZ5.out]; omega)).trans BM5.out); have BY6 := Aside0.mk ((hb6.block (w.heap.size + 1 + 1) (by rw [SZ5.out]; omega)).trans BY5.out); have BL6 := Aside0.mk ((hb6.block (w.heap.size + 1 + 1 + 1) (by rw [SZ5.out]; omega)).trans BL5.out); have BE6 := Aside0.mk ((hb6.block (w.heap.size + 1 + 1 + 1 + 1) (by rw [SZ5.out]; omega)).trans BE5.out); have px0 : w6.cell? ⟨w.heap.size, 0, none⟩ = some (.int .i64 id) := blk_cell BX6.out 0; have px1 : w6.cell? ⟨w.heap.size, 1, none⟩ = some (.int .i64 n) := blk_cell BX6.out 1; have px2 : w6.cell? ⟨w.heap.size, 2, none⟩ = some (.int .i64 view) := blk_cell BX6.out 2; have pm0 : w6.cell? ⟨w.heap.size + 1, 0, none⟩ = some (.int .i64 m.f0) := blk_cell BM6.out 0; have pm1 : w6.cell? ⟨w.heap.size + 1, 1, none⟩ = some (.int .i64 m.f1) := blk_cell BM6.out 1; have pm2 : w6.cell? ⟨w.heap.size + 1, 2, none⟩ = some (.int .i64 m.f2) := blk_cell BM6.out 2; have pm3 : w6.cell? ⟨w.heap.size + 1, 3, none⟩ = some (.int .i64 m.f3) := blk_cell BM6.out 3; have pm4 : w6.cell? ⟨w.heap.size + 1, 4, none⟩ = some (.int .i64 m.f4) := blk_cell BM6.out 4; have pm5 : w6.cell? ⟨w.heap.size + 1, 5, none⟩ = some (.int .i64 m.f5) := blk_cell BM6.out 5; have pm6 : w6.cell? ⟨w.heap.size + 1, 6, none⟩ = some (.int .i64 m.f6) := blk_cell BM6.out 6; have pm7 : w6.cell? ⟨w.heap.size + 1, 7, none⟩ = some (.slice A m.f7.length c) := blk_cell BM6.out 7; clear hN hb6) | (go_at_call 22; refine (msg_Is.calls k m.f0 m.f1 m.f2 m.f3 m.f4 m.f5 m.f6 A c m.f7 true w6 (HMC.out _ HW6.out) LM.out HMS.out).mono ?_; rintro e w7 ⟨rfl, hb7⟩; have HN7 := Aside0.mk (HN6.out.below hb7); have HW7 := Aside0.mk (below_step HW6.out hb7); have SZ7 := Aside0.mk (show w.heap.size + 5 ≤ w7.heap.size by have h1 := hb7.size; have h2 := SZ6.out; omega); have BX7 := Aside0.mk ((hb7.block (w.heap.size) (by have := SZ6.out; omega)).trans BX6.out); have BM7 := Aside0.mk ((hb7.block (w.heap.size + 1) (by have := SZ6.out; omega)).trans BM6.out); have BY7 := Aside0.mk ((hb7.block (w.heap.size + 1 + 1) (by have := SZ6.out; omega)).trans BY6.out); have BL7 := Aside0.mk ((hb7.block (w.heap.size + 1 + 1 + 1) (by have := SZ6.out; omega)).trans BL6.out); have BE7 := Aside0.mk ((hb7.block (w.heap.size + 1 + 1 + 1 + 1) (by have := SZ6.out; omega)).trans BE6.out); have qx0 : w7.cell? ⟨w.heap.size, 0, none⟩ = some (.int .i64 id) := blk_cell BX7.out 0; have qx1 : w7.cell? ⟨w.heap.size, 1, none⟩ = some (.int .i64 n) := blk_cell BX7.out 1; have qx2 : w7.cell? ⟨w.heap.size, 2, none⟩ = some (.int .i64 view) := blk_cell BX7.out 2; have qm0 : w7.cell? ⟨w.heap.size + 1, 0, none⟩ = some (.int .i64 m.f0) := blk_cell BM7.out 0; have qm1 : w7.cell? ⟨w.heap.size + 1, 1, none⟩ = some (.int .i64 m.f1) := blk_cell BM7.out 1; have qm2 : w7.cell? ⟨w.heap.size + 1, 2, none⟩ = some (.int .i64 m.f2) := blk_cell BM7.out 2; have qm3 : w7.cell? ⟨w.heap.size + 1, 3, none⟩ = some (.int .i64 m.f3) := blk_cell BM7.out 3; have qm4 : w7.cell? ⟨w.heap.size + 1, 4, none⟩ = some (.int .i64 m.f4) := blk_cell BM7.out 4; have qm5 : w7.cell? ⟨w.heap.size + 1, 5, none⟩ = some (.int .i64 m.f5) := blk_cell BM7.out 5; have qm6 : w7.cell? ⟨w.heap.size + 1, 6, none⟩ = some (.int .i64 m.f6) := blk_cell BM7.out 6; have qm7 : w7.cell? ⟨w.heap.size + 1, 7, none⟩ = some (.slice A m.f7.length c) := blk_cell BM7.out 7; clear hb7))
  refine leaves_cons (f := 20) (args := #[.pointer (some ⟨w.heap.size + 1 + 1, 0, none⟩), .pointer (some ⟨w.heap.size + 1 + 1 + 1, 0, none⟩), .pointer (some ⟨w.heap.size + 1 + 1 + 1 + 1, 0, none⟩)]) (by simp) (by kernel_rfl) ?_
  refine (caught_panicking (w.heap.size + 1 + 1) (w.heap.size + 1 + 1 + 1) (w.heap.size + 1 + 1 + 1 + 1) 1 [] w7 BY7.out BL7.out BE7.out (by omega) (by omega) (by omega)).mono ?_
  rintro e u' w9 ⟨rfl, rfl, ky, kl, ke, kb⟩
  refine ⟨_, results_8 rfl _ _ (w.heap.size + 1 + 1) (w.heap.size + 1 + 1 + 1) (w.heap.size + 1 + 1 + 1 + 1) 26 zeroNode (0, 0) (.slice none 0 0) 1 rfl rfl rfl ky rfl ((blk_cell kl 0).trans rfl) ((blk_cell ke 0).trans rfl), .slice none 0 0, .slice none 0 0, .slice none 0 0, .slice none 0 0, rfl, res_zero _ _, ?_⟩
  exact HW7.out.trans (kb w.heap.size (by omega) (by omega) (by omega))
set_option maxHeartbeats 8000000 in
set_option maxRecDepth 100000 in
theorem handle_bad3 (id n view last : Int) (works : Bool) (commit : Int) (log : List ByteArray) (acks : List Int) (votes : List S66) (told : List S28) (A6 A7 A8 : Option Addr) (c6 c7 c8 : Nat) (w : World) (h6 : Kd.C Kd.string w A6 log.length log) (l6 : log.length ≤ c6) (h7 : Kd.C (Kd.int .i64) w A7 acks.length acks) (l7 : acks.length ≤ c7) (h8 : Kd.C k66 w A8 votes.length votes) (l8 : votes.length ≤ c8)
    (hl : log.length < 4398046511104) (ha : acks.length < 4398046511104) (hvl : votes.length < 4398046511104) (hv : ∀ v, v ∈ votes → v.f3.length < 4398046511104 ∧ (Lit.int .i64 v.f0).wf = true) (m : S28) (A : Option Addr) (c : Nat) (hm : Kd.C Kd.string w A m.f7.length m.f7) (lm : m.f7.length ≤ c)
    (his : isB ⟨id, n, view, last, works, commit, log, acks, votes, told⟩ = true) (hb : msgB m = true) (h_t : m.f2 = id) (h_f : m.f1 = id) :
    Calls Try.prog 8 #[.agg #[.int .i64 id, .int .i64 n, .int .i64 view, .int .i64 last, .bool works, .int .i64 commit, .slice A6 log.length c6, .slice A7 acks.length c7, .slice A8 votes.length c8], .agg #[.int .i64 m.f0, .int .i64 m.f1, .int .i64 m.f2, .int .i64 m.f3, .int .i64 m.f4, .int .i64 m.f5, .int .i64 m.f6, .slice A m.f7.length c]] w fun e w' => ∃ v6 v7 v8 v9, e = .returned (.tuple #[.agg #[.int .i64 zeroNod.id, .int .i64 zeroNod.n, .int .i64 zeroNod.view, .int .i64 zeroNod.last, .bool zeroNod.works, .int .i64 zeroNod.commit, v6, v7, v8], v9, .int .i64 1]) ∧ Res w' w.heap.size zeroNod v6 v7 v8 v9 ∧ Below w.heap.size w w' := by
  have hu26 := Try.underlying26
  have hu28 := Try.underlying28
  have hu57 := Try.underlying57
  have HR := Aside0.mk (right_of his)
  have hvs : votes.length ≤ 900 := by have h1 := HR.out.count; have h2 := HR.out.n7; simp only at h1 h2; omega
  have hvt : ∀ v, v ∈ votes → v.f3.length ≤ 1000 := fun v hv => by have h1 := (loggedB_len (votesB_all _ _ _ _ HR.out.votes v hv).2.2.2.2.2).1; omega
  obtain ⟨hw5, sz5, bx5, bm5, by5, bl5, be5⟩ := new5 w (.cells #[.int .i64 id, .int .i64 n, .int .i64 view, .int .i64 last, .bool works, .int .i64 commit, .slice A6 log.length c6, .slice A7 acks.length c7, .slice A8 votes.length c8] 26) (.cells #[.int .i64 m.f0, .int .i64 m.f1, .int .i64 m.f2, .int .i64 m.f3, .int .i64 m.f4, .int .i64 m.f5, .int .i64 m.f6, .slice A m.f7.length c] 28) (.cells #[.int .i64 0, .int .i64 0, .int .i64 0, .int .i64 0, .bool false, .int .i64 0, .slice none 0 0, .slice none 0 0, .slice none 0 0] 26) (.cells #[.slice none 0 0] 30) (.cells #[.int .i64 0] 31)
  have HW5 := Aside0.mk hw5
  have SZ5 := Aside0.mk sz5
  have BX5 := Aside0.mk bx5
  have BM5 := Aside0.mk bm5
  have BY5 := Aside0.mk (five_zero by5)
  have BL5 := Aside0.mk bl5
  have BE5 := Aside0.mk be5
  clear hw5 sz5 bx5 bm5 by5 bl5 be5
  have H21 := Aside0.mk (open_is id n view last works commit log acks votes told A6 A7 A8 c6 c7 c8 _ (Kd.C_below h6 HW5.out) l6 (Kd.C_below h7 HW5.out) l7 (Kd.C_below h8 HW5.out) l8 hl ha hvl hv his hvs hvt)
  have HMC := Aside0.mk (fun (W : World) (hb : Below w.heap.size w W) => Kd.C_below hm hb)
  have LM := Aside0.mk lm
  obtain ⟨k, hk⟩ : ∃ k, 101 ≤ k := ⟨101, Nat.le_refl _⟩
  have HMS := Aside0.mk (msg_of k hk m)
  rw [hb] at HMS
  have ta : (m.f2 == id) = true := beq_iff_eq.mpr h_t
  have tb : (m.f2 != id) = false := bne_eq_false_iff_eq.mpr h_t
  have fa : (m.f1 == id) = true := beq_iff_eq.mpr h_f
  have fb : (m.f1 != id) = false := bne_eq_false_iff_eq.mpr h_f
  clear hb h_t h_f
  have hpn : ∀ W : World, (Instr.panic (.iface 31 (.int .i64 1))).run Try.prog W = .halt (.panic (.iface 31 (.int .i64 1))) W := fun _ => rfl
  clear h6 l6 h7 l7 h8 l8 hl ha hvl hv his hvs hvt hm lm hk
  go_enter_defers Try.func8, Try.ntmps8
  go_wp2_with (first | (go_at_call 21; refine H21.out.mono ?_; rintro e w6 ⟨g, rfl, hN, hb6⟩; have HN6 := Aside0.mk hN; have HW6 := Aside0.mk (below_step HW5.out hb6); have SZ6 := Aside0.mk (show w.heap.size + 5 ≤ w6.heap.size by have h1 := hb6.size; have h2 := SZ5.out; omega); have BX6 := Aside0.mk ((hb6.block (w.heap.size) (by rw [SZ5.out]; omega)).trans BX5.out); have BM6 := Aside0.mk ((hb6.block (w.heap.size + 1) (by rw [SZ5.out]; omega)).trans BM5.out); have BY6 := Aside0.mk ((hb6.block (w.heap.size + 1 + 1) (by rw [SZ5.out]; omega)).trans BY5.out); have BL6 := Aside0.mk ((hb6.block (w.heap.size + 1 + 1 + 1) (by rw [SZ5.out]; omega)).trans BL5.out); have BE6 := Aside0.mk ((hb6.block (w.heap.size + 1 + 1 + 1 + 1) (by rw [SZ5.out]; omega)).trans BE5.out); have px0 : w6.cell? ⟨w.heap.size, 0, none⟩ = some (.int .i64 id) := blk_cell BX6.out 0; have px1 : w6.cell? ⟨w.heap.size, 1, none⟩ = some (.int .i64 n) := blk_cell BX6.out 1; have px2 : w6.cell? ⟨w.heap.size, 2, none⟩ = some (.int .i64 view) := blk_cell BX6.out 2; have pm0 : w6.cell? ⟨w.heap.size + 1, 0, none⟩ = some (.int .i64 m.f0) := blk_cell BM6.out 0; have pm1 : w6.cell? ⟨w.heap.size + 1, 1, none⟩ = some (.int .i64 m.f1) := blk_cell BM6.out 1; have pm2 : w6.cell? ⟨w.heap.size + 1, 2, none⟩ = some (.int .i64 m.f2) := blk_cell BM6.out 2; have pm3 : w6.cell? ⟨w.heap.size + 1, 3, none⟩ = some (.int .i64 m.f3) := blk_cell BM6.out 3; have pm4 : w6.cell? ⟨w.heap.size + 1, 4, none⟩ = some (.int .i64 m.f4) := blk_cell BM6.out 4; have pm5 : w6.cell? ⟨w.heap.size + 1, 5, none⟩ = some (.int .i64 m.f5) := blk_cell BM6.out 5; have pm6 : w6.cell? ⟨w.heap.size + 1, 6, none⟩ = some (.int .i64 m.f6) := blk_cell BM6.out 6; have pm7 : w6.cell? ⟨w.heap.size + 1, 7, none⟩ = some (.slice A m.f7.length c) := blk_cell BM6.out 7; clear hN hb6) | (go_at_call 22; refine (msg_Is.calls k m.f0 m.f1 m.f2 m.f3 m.f4 m.f5 m.f6 A c m.f7 true w6 (HMC.out _ HW6.out) LM.out HMS.out).mono ?_; rintro e w7 ⟨rfl, hb7⟩; have HN7 := Aside0.mk (HN6.out.below hb7); have HW7 := Aside0.mk (below_step HW6.out hb7); have SZ7 := Aside0.mk (show w.heap.size + 5 ≤ w7.heap.size by have h1 := hb7.size; have h2 := SZ6.out; omega); have BX7 := Aside0.mk ((hb7.block (w.heap.size) (by have := SZ6.out; omega)).trans BX6.out); have BM7 := Aside0.mk ((hb7.block (w.heap.size + 1) (by have := SZ6.out; omega)).trans BM6.out); have BY7 := Aside0.mk ((hb7.block (w.heap.size + 1 + 1) (by have := SZ6.out; omega)).trans BY6.out); have BL7 := Aside0.mk ((hb7.block (w.heap.size + 1 + 1 + 1) (by have := SZ6.out; omega)).trans BL6.out); have BE7 := Aside0.mk ((hb7.block (w.heap.size + 1 + 1 + 1 + 1) (by have := SZ6.out; omega)).trans BE6.out); have qx0 : w7.cell? ⟨w.heap.size, 0, none⟩ = some (.int .i64 id) := blk_cell BX7.out 0; have qx1 : w7.cell? ⟨w.heap.size, 1, none⟩ = some (.int .i64 n) := blk_cell BX7.out 1; have qx2 : w7.cell? ⟨w.heap.size, 2, none⟩ = some (.int .i64 view) := blk_cell BX7.out 2; have qm0 : w7.cell? ⟨w.heap.size + 1, 0, none⟩ = some (.int .i64 m.f0) := blk_cell BM7.out 0; have qm1 : w7.cell? ⟨w.heap.size + 1, 1, none⟩ = some (.int .i64 m.f1) := blk_cell BM7.out 1; have qm2 : w7.cell? ⟨w.heap.size + 1, 2, none⟩ = some (.int .i64 m.f2) := blk_cell BM7.out 2; have qm3 : w7.cell? ⟨w.heap.size + 1, 3, none⟩ = some (.int .i64 m.f3) := blk_cell BM7.out 3; have qm4 : w7.cell? ⟨w.heap.size + 1, 4, none⟩ = some (.int .i64 m.f4) := blk_cell BM7.out 4; have qm5 : w7.cell? ⟨w.heap.size + 1, 5, none⟩ = some (.int .i64 m.f5) := blk_cell BM7.out 5; have qm6 : w7.cell? ⟨w.heap.size + 1, 6, none⟩ = some (.int .i64 m.f6) := blk_cell BM7.out 6; have qm7 : w7.cell? ⟨w.heap.size + 1, 7, none⟩ = some (.slice A m.f7.length c) := blk_cell BM7.out 7; clear hb7))
  refine leaves_cons (f := 20) (args := #[.pointer (some ⟨w.heap.size + 1 + 1, 0, none⟩), .pointer (some ⟨w.heap.size + 1 + 1 + 1, 0, none⟩), .pointer (some ⟨w.heap.size + 1 + 1 + 1 + 1, 0, none⟩)]) (by simp) (by kernel_rfl) ?_
  refine (caught_panicking (w.heap.size + 1 + 1) (w.heap.size + 1 + 1 + 1) (w.heap.size + 1 + 1 + 1 + 1) 1 [] w7 BY7.out BL7.out BE7.out (by omega) (by omega) (by omega)).mono ?_
  rintro e u' w9 ⟨rfl, rfl, ky, kl, ke, kb⟩
  refine ⟨_, results_8 rfl _ _ (w.heap.size + 1 + 1) (w.heap.size + 1 + 1 + 1) (w.heap.size + 1 + 1 + 1 + 1) 26 zeroNode (0, 0) (.slice none 0 0) 1 rfl rfl rfl ky rfl ((blk_cell kl 0).trans rfl) ((blk_cell ke 0).trans rfl), .slice none 0 0, .slice none 0 0, .slice none 0 0, .slice none 0 0, rfl, res_zero _ _, ?_⟩
  exact HW7.out.trans (kb w.heap.size (by omega) (by omega) (by omega))
set_option maxHeartbeats 8000000 in
set_option maxRecDepth 100000 in
theorem handle_bad4 (id n view last : Int) (works : Bool) (commit : Int) (log : List ByteArray) (acks : List Int) (votes : List S66) (told : List S28) (A6 A7 A8 : Option Addr) (c6 c7 c8 : Nat) (w : World) (h6 : Kd.C Kd.string w A6 log.length log) (l6 : log.length ≤ c6) (h7 : Kd.C (Kd.int .i64) w A7 acks.length acks) (l7 : acks.length ≤ c7) (h8 : Kd.C k66 w A8 votes.length votes) (l8 : votes.length ≤ c8)
    (hl : log.length < 4398046511104) (ha : acks.length < 4398046511104) (hvl : votes.length < 4398046511104) (hv : ∀ v, v ∈ votes → v.f3.length < 4398046511104 ∧ (Lit.int .i64 v.f0).wf = true) (m : S28) (A : Option Addr) (c : Nat) (hm : Kd.C Kd.string w A m.f7.length m.f7) (lm : m.f7.length ≤ c)
    (his : isB ⟨id, n, view, last, works, commit, log, acks, votes, told⟩ = true) (hb : msgB m = true) (h_t : m.f2 = id) (h_f : ¬ m.f1 = id) (h_n : m.f1 ≥ n) :
    Calls Try.prog 8 #[.agg #[.int .i64 id, .int .i64 n, .int .i64 view, .int .i64 last, .bool works, .int .i64 commit, .slice A6 log.length c6, .slice A7 acks.length c7, .slice A8 votes.length c8], .agg #[.int .i64 m.f0, .int .i64 m.f1, .int .i64 m.f2, .int .i64 m.f3, .int .i64 m.f4, .int .i64 m.f5, .int .i64 m.f6, .slice A m.f7.length c]] w fun e w' => ∃ v6 v7 v8 v9, e = .returned (.tuple #[.agg #[.int .i64 zeroNod.id, .int .i64 zeroNod.n, .int .i64 zeroNod.view, .int .i64 zeroNod.last, .bool zeroNod.works, .int .i64 zeroNod.commit, v6, v7, v8], v9, .int .i64 1]) ∧ Res w' w.heap.size zeroNod v6 v7 v8 v9 ∧ Below w.heap.size w w' := by
  have hu26 := Try.underlying26
  have hu28 := Try.underlying28
  have hu57 := Try.underlying57
  have HR := Aside0.mk (right_of his)
  have hvs : votes.length ≤ 900 := by have h1 := HR.out.count; have h2 := HR.out.n7; simp only at h1 h2; omega
  have hvt : ∀ v, v ∈ votes → v.f3.length ≤ 1000 := fun v hv => by have h1 := (loggedB_len (votesB_all _ _ _ _ HR.out.votes v hv).2.2.2.2.2).1; omega
  obtain ⟨hw5, sz5, bx5, bm5, by5, bl5, be5⟩ := new5 w (.cells #[.int .i64 id, .int .i64 n, .int .i64 view, .int .i64 last, .bool works, .int .i64 commit, .slice A6 log.length c6, .slice A7 acks.length c7, .slice A8 votes.length c8] 26) (.cells #[.int .i64 m.f0, .int .i64 m.f1, .int .i64 m.f2, .int .i64 m.f3, .int .i64 m.f4, .int .i64 m.f5, .int .i64 m.f6, .slice A m.f7.length c] 28) (.cells #[.int .i64 0, .int .i64 0, .int .i64 0, .int .i64 0, .bool false, .int .i64 0, .slice none 0 0, .slice none 0 0, .slice none 0 0] 26) (.cells #[.slice none 0 0] 30) (.cells #[.int .i64 0] 31)
  have HW5 := Aside0.mk hw5
  have SZ5 := Aside0.mk sz5
  have BX5 := Aside0.mk bx5
  have BM5 := Aside0.mk bm5
  have BY5 := Aside0.mk (five_zero by5)
  have BL5 := Aside0.mk bl5
  have BE5 := Aside0.mk be5
  clear hw5 sz5 bx5 bm5 by5 bl5 be5
  have H21 := Aside0.mk (open_is id n view last works commit log acks votes told A6 A7 A8 c6 c7 c8 _ (Kd.C_below h6 HW5.out) l6 (Kd.C_below h7 HW5.out) l7 (Kd.C_below h8 HW5.out) l8 hl ha hvl hv his hvs hvt)
  have HMC := Aside0.mk (fun (W : World) (hb : Below w.heap.size w W) => Kd.C_below hm hb)
  have LM := Aside0.mk lm
  obtain ⟨k, hk⟩ : ∃ k, 101 ≤ k := ⟨101, Nat.le_refl _⟩
  have HMS := Aside0.mk (msg_of k hk m)
  rw [hb] at HMS
  have ta : (m.f2 == id) = true := beq_iff_eq.mpr h_t
  have tb : (m.f2 != id) = false := bne_eq_false_iff_eq.mpr h_t
  have fa : (m.f1 == id) = false := beq_eq_false_iff_ne.mpr h_f
  have fb : (m.f1 != id) = true := bne_iff_ne.mpr h_f
  have na : decide (m.f1 ≥ n) = true := decide_eq_true h_n
  have nb : decide (n ≤ m.f1) = true := decide_eq_true h_n
  clear hb h_t h_f h_n
  have hpn : ∀ W : World, (Instr.panic (.iface 31 (.int .i64 1))).run Try.prog W = .halt (.panic (.iface 31 (.int .i64 1))) W := fun _ => rfl
  clear h6 l6 h7 l7 h8 l8 hl ha hvl hv his hvs hvt hm lm hk
  go_enter_defers Try.func8, Try.ntmps8
  go_wp2_with (first | (go_at_call 21; refine H21.out.mono ?_; rintro e w6 ⟨g, rfl, hN, hb6⟩; have HN6 := Aside0.mk hN; have HW6 := Aside0.mk (below_step HW5.out hb6); have SZ6 := Aside0.mk (show w.heap.size + 5 ≤ w6.heap.size by have h1 := hb6.size; have h2 := SZ5.out; omega); have BX6 := Aside0.mk ((hb6.block (w.heap.size) (by rw [SZ5.out]; omega)).trans BX5.out); have BM6 := Aside0.mk ((hb6.block (w.heap.size + 1) (by rw [SZ5.out]; omega)).trans BM5.out); have BY6 := Aside0.mk ((hb6.block (w.heap.size + 1 + 1) (by rw [SZ5.out]; omega)).trans BY5.out); have BL6 := Aside0.mk ((hb6.block (w.heap.size + 1 + 1 + 1) (by rw [SZ5.out]; omega)).trans BL5.out); have BE6 := Aside0.mk ((hb6.block (w.heap.size + 1 + 1 + 1 + 1) (by rw [SZ5.out]; omega)).trans BE5.out); have px0 : w6.cell? ⟨w.heap.size, 0, none⟩ = some (.int .i64 id) := blk_cell BX6.out 0; have px1 : w6.cell? ⟨w.heap.size, 1, none⟩ = some (.int .i64 n) := blk_cell BX6.out 1; have px2 : w6.cell? ⟨w.heap.size, 2, none⟩ = some (.int .i64 view) := blk_cell BX6.out 2; have pm0 : w6.cell? ⟨w.heap.size + 1, 0, none⟩ = some (.int .i64 m.f0) := blk_cell BM6.out 0; have pm1 : w6.cell? ⟨w.heap.size + 1, 1, none⟩ = some (.int .i64 m.f1) := blk_cell BM6.out 1; have pm2 : w6.cell? ⟨w.heap.size + 1, 2, none⟩ = some (.int .i64 m.f2) := blk_cell BM6.out 2; have pm3 : w6.cell? ⟨w.heap.size + 1, 3, none⟩ = some (.int .i64 m.f3) := blk_cell BM6.out 3; have pm4 : w6.cell? ⟨w.heap.size + 1, 4, none⟩ = some (.int .i64 m.f4) := blk_cell BM6.out 4; have pm5 : w6.cell? ⟨w.heap.size + 1, 5, none⟩ = some (.int .i64 m.f5) := blk_cell BM6.out 5; have pm6 : w6.cell? ⟨w.heap.size + 1, 6, none⟩ = some (.int .i64 m.f6) := blk_cell BM6.out 6; have pm7 : w6.cell? ⟨w.heap.size + 1, 7, none⟩ = some (.slice A m.f7.length c) := blk_cell BM6.out 7; clear hN hb6) | (go_at_call 22; refine (msg_Is.calls k m.f0 m.f1 m.f2 m.f3 m.f4 m.f5 m.f6 A c m.f7 true w6 (HMC.out _ HW6.out) LM.out HMS.out).mono ?_; rintro e w7 ⟨rfl, hb7⟩; have HN7 := Aside0.mk (HN6.out.below hb7); have HW7 := Aside0.mk (below_step HW6.out hb7); have SZ7 := Aside0.mk (show w.heap.size + 5 ≤ w7.heap.size by have h1 := hb7.size; have h2 := SZ6.out; omega); have BX7 := Aside0.mk ((hb7.block (w.heap.size) (by have := SZ6.out; omega)).trans BX6.out); have BM7 := Aside0.mk ((hb7.block (w.heap.size + 1) (by have := SZ6.out; omega)).trans BM6.out); have BY7 := Aside0.mk ((hb7.block (w.heap.size + 1 + 1) (by have := SZ6.out; omega)).trans BY6.out); have BL7 := Aside0.mk ((hb7.block (w.heap.size + 1 + 1 + 1) (by have := SZ6.out; omega)).trans BL6.out); have BE7 := Aside0.mk ((hb7.block (w.heap.size + 1 + 1 + 1 + 1) (by have := SZ6.out; omega)).trans BE6.out); have qx0 : w7.cell? ⟨w.heap.size, 0, none⟩ = some (.int .i64 id) := blk_cell BX7.out 0; have qx1 : w7.cell? ⟨w.heap.size, 1, none⟩ = some (.int .i64 n) := blk_cell BX7.out 1; have qx2 : w7.cell? ⟨w.heap.size, 2, none⟩ = some (.int .i64 view) := blk_cell BX7.out 2; have qm0 : w7.cell? ⟨w.heap.size + 1, 0, none⟩ = some (.int .i64 m.f0) := blk_cell BM7.out 0; have qm1 : w7.cell? ⟨w.heap.size + 1, 1, none⟩ = some (.int .i64 m.f1) := blk_cell BM7.out 1; have qm2 : w7.cell? ⟨w.heap.size + 1, 2, none⟩ = some (.int .i64 m.f2) := blk_cell BM7.out 2; have qm3 : w7.cell? ⟨w.heap.size + 1, 3, none⟩ = some (.int .i64 m.f3) := blk_cell BM7.out 3; have qm4 : w7.cell? ⟨w.heap.size + 1, 4, none⟩ = some (.int .i64 m.f4) := blk_cell BM7.out 4; have qm5 : w7.cell? ⟨w.heap.size + 1, 5, none⟩ = some (.int .i64 m.f5) := blk_cell BM7.out 5; have qm6 : w7.cell? ⟨w.heap.size + 1, 6, none⟩ = some (.int .i64 m.f6) := blk_cell BM7.out 6; have qm7 : w7.cell? ⟨w.heap.size + 1, 7, none⟩ = some (.slice A m.f7.length c) := blk_cell BM7.out 7; clear hb7))
  refine leaves_cons (f := 20) (args := #[.pointer (some ⟨w.heap.size + 1 + 1, 0, none⟩), .pointer (some ⟨w.heap.size + 1 + 1 + 1, 0, none⟩), .pointer (some ⟨w.heap.size + 1 + 1 + 1 + 1, 0, none⟩)]) (by simp) (by kernel_rfl) ?_
  refine (caught_panicking (w.heap.size + 1 + 1) (w.heap.size + 1 + 1 + 1) (w.heap.size + 1 + 1 + 1 + 1) 1 [] w7 BY7.out BL7.out BE7.out (by omega) (by omega) (by omega)).mono ?_
  rintro e u' w9 ⟨rfl, rfl, ky, kl, ke, kb⟩
  refine ⟨_, results_8 rfl _ _ (w.heap.size + 1 + 1) (w.heap.size + 1 + 1 + 1) (w.heap.size + 1 + 1 + 1 + 1) 26 zeroNode (0, 0) (.slice none 0 0) 1 rfl rfl rfl ky rfl ((blk_cell kl 0).trans rfl) ((blk_cell ke 0).trans rfl), .slice none 0 0, .slice none 0 0, .slice none 0 0, .slice none 0 0, rfl, res_zero _ _, ?_⟩
  exact HW7.out.trans (kb w.heap.size (by omega) (by omega) (by omega))
end Go.Proofs.Ytfpfpckocemmdaa.P
end
section
namespace Go.Proofs.Ytfpfpckocemmdaa.P
open Go.RowKit Go.Proofs.YtfpfpckocemmdaaW.PrintWords Go.Proofs.YtfpfpckocemmdaaW.PrintLast Go.Proofs.YtfpfpckocemmdaaW.PrintMore
set_option linter.unusedVariables false
set_option linter.unusedSimpArgs false
set_option maxHeartbeats 8000000 in
set_option maxRecDepth 100000 in
theorem handle_old (id n view last : Int) (works : Bool) (commit : Int) (log : List ByteArray) (acks : List Int) (votes : List S66) (told : List S28) (A6 A7 A8 : Option Addr) (c6 c7 c8 : Nat) (w : World) (h6 : Kd.C Kd.string w A6 log.length log) (l6 : log.length ≤ c6) (h7 : Kd.C (Kd.int .i64) w A7 acks.length acks) (l7 : acks.length ≤ c7) (h8 : Kd.C k66 w A8 votes.length votes) (l8 : votes.length ≤ c8)
    (hl : log.length < 4398046511104) (ha : acks.length < 4398046511104) (hvl : votes.length < 4398046511104) (hv : ∀ v, v ∈ votes → v.f3.length < 4398046511104 ∧ (Lit.int .i64 v.f0).wf = true) (m : S28) (A : Option Addr) (c : Nat) (hm : Kd.C Kd.string w A m.f7.length m.f7) (lm : m.f7.length ≤ c)
    (his : isB ⟨id, n, view, last, works, commit, log, acks, votes, told⟩ = true) (hb : msgB m = true) (h_t : m.f2 = id) (h_f : ¬ m.f1 = id) (h_n : ¬ m.f1 ≥ n) (h_v : ¬ m.f3 ≥ view) :
    Calls Try.prog 8 #[.agg #[.int .i64 id, .int .i64 n, .int .i64 view, .int .i64 last, .bool works, .int .i64 commit, .slice A6 log.length c6, .slice A7 acks.length c7, .slice A8 votes.length c8], .agg #[.int .i64 m.f0, .int .i64 m.f1, .int .i64 m.f2, .int .i64 m.f3, .int .i64 m.f4, .int .i64 m.f5, .int .i64 m.f6, .slice A m.f7.length c]] w fun e w' => ∃ v6 v7 v8 v9, e = .returned (.tuple #[.agg #[.int .i64 (Nod.opened ⟨id, n, view, last, works, commit, log, acks, votes, told⟩).id, .int .i64 (Nod.opened ⟨id, n, view, last, works, commit, log, acks, votes, told⟩).n, .int .i64 (Nod.opened ⟨id, n, view, last, works, commit, log, acks, votes, told⟩).view, .int .i64 (Nod.opened ⟨id, n, view, last, works, commit, log, acks, votes, told⟩).last, .bool (Nod.opened ⟨id, n, view, last, works, commit, log, acks, votes, told⟩).works, .int .i64 (Nod.opened ⟨id, n, view, last, works, commit, log, acks, votes, told⟩).commit, v6, v7, v8], v9, .int .i64 0]) ∧ Res w' w.heap.size (Nod.opened ⟨id, n, view, last, works, commit, log, acks, votes, told⟩) v6 v7 v8 v9 ∧ Below w.heap.size w w' := by
  have hu26 := Try.underlying26
  have hu28 := Try.underlying28
  have hu57 := Try.underlying57
  have HR := Aside0.mk (right_of his)
  have hvs : votes.length ≤ 900 := by have h1 := HR.out.count; have h2 := HR.out.n7; simp only at h1 h2; omega
  have hvt : ∀ v, v ∈ votes → v.f3.length ≤ 1000 := fun v hv => by have h1 := (loggedB_len (votesB_all _ _ _ _ HR.out.votes v hv).2.2.2.2.2).1; omega
  obtain ⟨hw5, sz5, bx5, bm5, by5, bl5, be5⟩ := new5 w (.cells #[.int .i64 id, .int .i64 n, .int .i64 view, .int .i64 last, .bool works, .int .i64 commit, .slice A6 log.length c6, .slice A7 acks.length c7, .slice A8 votes.length c8] 26) (.cells #[.int .i64 m.f0, .int .i64 m.f1, .int .i64 m.f2, .int .i64 m.f3, .int .i64 m.f4, .int .i64 m.f5, .int .i64 m.f6, .slice A m.f7.length c] 28) (.cells #[.int .i64 0, .int .i64 0, .int .i64 0, .int .i64 0, .bool false, .int .i64 0, .slice none 0 0, .slice none 0 0, .slice none 0 0] 26) (.cells #[.slice none 0 0] 30) (.cells #[.int .i64 0] 31)
  have HW5 := Aside0.mk hw5
  have SZ5 := Aside0.mk sz5
  have BX5 := Aside0.mk bx5
  have BM5 := Aside0.mk bm5
  have BY5 := Aside0.mk (five_zero by5)
  have BL5 := Aside0.mk bl5
  have BE5 := Aside0.mk be5
  clear hw5 sz5 bx5 bm5 by5 bl5 be5
  have H21 := Aside0.mk (open_is id n view last works commit log acks votes told A6 A7 A8 c6 c7 c8 _ (Kd.C_below h6 HW5.out) l6 (Kd.C_below h7 HW5.out) l7 (Kd.C_below h8 HW5.out) l8 hl ha hvl hv his hvs hvt)
  have HMC := Aside0.mk (fun (W : World) (hb : Below w.heap.size w W) => Kd.C_below hm hb)
  have LM := Aside0.mk lm
  obtain ⟨k, hk⟩ : ∃ k, 101 ≤ k := ⟨101, Nat.le_refl _⟩
  have HMS := Aside0.mk (msg_of k hk m)
  rw [hb] at HMS
  have ta : (m.f2 == id) = true := beq_iff_eq.mpr h_t
  have tb : (m.f2 != id) = false := bne_eq_false_iff_eq.mpr h_t
  have fa : (m.f1 == id) = false := beq_eq_false_iff_ne.mpr h_f
  have fb : (m.f1 != id) = true := bne_iff_ne.mpr h_f
  have na : decide (m.f1 ≥ n) = false := decide_eq_false h_n
  have nb : decide (n ≤ m.f1) = false := decide_eq_false h_n
  have va : decide (m.f3 ≥ view) = false := decide_eq_false h_v
  have vb : decide (view ≤ m.f3) = false := decide_eq_false h_v
  clear hb h_t h_f h_n h_v
  clear h6 l6 h7 l7 h8 l8 hl ha hvl hv his hvs hvt hm lm hk
  go_enter_defers Try.func8, Try.ntmps8
  go_wp2_with (first | (go_at_call 21; refine H21.out.mono ?_; rintro e w6 ⟨g, rfl, hN, hb6⟩; have HN6 := Aside0.mk hN; have HW6 := Aside0.mk (below_step HW5.out hb6); have SZ6 := Aside0.mk (show w.heap.size + 5 ≤ w6.heap.size by have h1 := hb6.size; have h2 := SZ5.out; omega); have BX6 := Aside0.mk ((hb6.block (w.heap.size) (by rw [SZ5.out]; omega)).trans BX5.out); have BM6 := Aside0.mk ((hb6.block (w.heap.size + 1) (by rw [SZ5.out]; omega)).trans BM5.out); have BY6 := Aside0.mk ((hb6.block (w.heap.size + 1 + 1) (by rw [SZ5.out]; omega)).trans BY5.out); have BL6 := Aside0.mk ((hb6.block (w.heap.size + 1 + 1 + 1) (by rw [SZ5.out]; omega)).trans BL5.out); have BE6 := Aside0.mk ((hb6.block (w.heap.size + 1 + 1 + 1 + 1) (by rw [SZ5.out]; omega)).trans BE5.out); have px0 : w6.cell? ⟨w.heap.size, 0, none⟩ = some (.int .i64 id) := blk_cell BX6.out 0; have px1 : w6.cell? ⟨w.heap.size, 1, none⟩ = some (.int .i64 n) := blk_cell BX6.out 1; have px2 : w6.cell? ⟨w.heap.size, 2, none⟩ = some (.int .i64 view) := blk_cell BX6.out 2; have pm0 : w6.cell? ⟨w.heap.size + 1, 0, none⟩ = some (.int .i64 m.f0) := blk_cell BM6.out 0; have pm1 : w6.cell? ⟨w.heap.size + 1, 1, none⟩ = some (.int .i64 m.f1) := blk_cell BM6.out 1; have pm2 : w6.cell? ⟨w.heap.size + 1, 2, none⟩ = some (.int .i64 m.f2) := blk_cell BM6.out 2; have pm3 : w6.cell? ⟨w.heap.size + 1, 3, none⟩ = some (.int .i64 m.f3) := blk_cell BM6.out 3; have pm4 : w6.cell? ⟨w.heap.size + 1, 4, none⟩ = some (.int .i64 m.f4) := blk_cell BM6.out 4; have pm5 : w6.cell? ⟨w.heap.size + 1, 5, none⟩ = some (.int .i64 m.f5) := blk_cell BM6.out 5; have pm6 : w6.cell? ⟨w.heap.size + 1, 6, none⟩ = some (.int .i64 m.f6) := blk_cell BM6.out 6; have pm7 : w6.cell? ⟨w.heap.size + 1, 7, none⟩ = some (.slice A m.f7.length c) := blk_cell BM6.out 7; clear hN hb6) | fail)
  refine (msg_Is.calls k m.f0 m.f1 m.f2 m.f3 m.f4 m.f5 m.f6 A c m.f7 true w6 (HMC.out _ HW6.out) LM.out HMS.out).mono ?_
  rintro e w7 ⟨rfl, hb7⟩
  have HN7 := Aside0.mk (HN6.out.below hb7)
  have HW7 := Aside0.mk (below_step HW6.out hb7)
  have SZ7 := Aside0.mk (show w.heap.size + 5 ≤ w7.heap.size by have h1 := hb7.size; have h2 := SZ6.out; omega)
  have BX7 := Aside0.mk ((hb7.block (w.heap.size) (by have := SZ6.out; omega)).trans BX6.out)
  have BM7 := Aside0.mk ((hb7.block (w.heap.size + 1) (by have := SZ6.out; omega)).trans BM6.out)
  have BY7 := Aside0.mk ((hb7.block (w.heap.size + 1 + 1) (by have := SZ6.out; omega)).trans BY6.out)
  have BL7 := Aside0.mk ((hb7.block (w.heap.size + 1 + 1 + 1) (by have := SZ6.out; omega)).trans BL6.out)
  have BE7 := Aside0.mk ((hb7.block (w.heap.size + 1 + 1 + 1 + 1) (by have := SZ6.out; omega)).trans BE6.out)
  have qx0 : w7.cell? ⟨w.heap.size, 0, none⟩ = some (.int .i64 id) := blk_cell BX7.out 0
  have qx1 : w7.cell? ⟨w.heap.size, 1, none⟩ = some (.int .i64 n) := blk_cell BX7.out 1
  have qx2 : w7.cell? ⟨w.heap.size, 2, none⟩ = some (.int .i64 view) := blk_cell BX7.out 2
  have qm0 : w7.cell? ⟨w.heap.size + 1, 0, none⟩ = some (.int .i64 m.f0) := blk_cell BM7.out 0
  have qm1 : w7.cell? ⟨w.heap.size + 1, 1, none⟩ = some (.int .i64 m.f1) := blk_cell BM7.out 1
  have qm2 : w7.cell? ⟨w.heap.size + 1, 2, none⟩ = some (.int .i64 m.f2) := blk_cell BM7.out 2
  have qm3 : w7.cell? ⟨w.heap.size + 1, 3, none⟩ = some (.int .i64 m.f3) := blk_cell BM7.out 3
  have qm4 : w7.cell? ⟨w.heap.size + 1, 4, none⟩ = some (.int .i64 m.f4) := blk_cell BM7.out 4
  have qm5 : w7.cell? ⟨w.heap.size + 1, 5, none⟩ = some (.int .i64 m.f5) := blk_cell BM7.out 5
  have qm6 : w7.cell? ⟨w.heap.size + 1, 6, none⟩ = some (.int .i64 m.f6) := blk_cell BM7.out 6
  have qm7 : w7.cell? ⟨w.heap.size + 1, 7, none⟩ = some (.slice A m.f7.length c) := blk_cell BM7.out 7
  obtain ⟨D6, d6, D7, d7, D8, d8, D9, d9, hbg, hres⟩ := HN7.out.res2
  have HRES := Aside0.mk hres
  have BG7 := Aside0.mk hbg
  have tg0 : w7.cell? ⟨g, 0, none⟩ = some (.int .i64 (Nod.opened ⟨id, n, view, last, works, commit, log, acks, votes, told⟩).id) := blk_cell hbg 0
  have tg1 : w7.cell? ⟨g, 1, none⟩ = some (.int .i64 (Nod.opened ⟨id, n, view, last, works, commit, log, acks, votes, told⟩).n) := blk_cell hbg 1
  have tg2 : w7.cell? ⟨g, 2, none⟩ = some (.int .i64 (Nod.opened ⟨id, n, view, last, works, commit, log, acks, votes, told⟩).view) := blk_cell hbg 2
  have tg3 : w7.cell? ⟨g, 3, none⟩ = some (.int .i64 (Nod.opened ⟨id, n, view, last, works, commit, log, acks, votes, told⟩).last) := blk_cell hbg 3
  have tg4 : w7.cell? ⟨g, 4, none⟩ = some (.bool (Nod.opened ⟨id, n, view, last, works, commit, log, acks, votes, told⟩).works) := blk_cell hbg 4
  have tg5 : w7.cell? ⟨g, 5, none⟩ = some (.int .i64 (Nod.opened ⟨id, n, view, last, works, commit, log, acks, votes, told⟩).commit) := blk_cell hbg 5
  have tg6 : w7.cell? ⟨g, 6, none⟩ = some (.slice D6 ((Nod.opened ⟨id, n, view, last, works, commit, log, acks, votes, told⟩)).log.length d6) := blk_cell hbg 6
  have tg7 : w7.cell? ⟨g, 7, none⟩ = some (.slice D7 ((Nod.opened ⟨id, n, view, last, works, commit, log, acks, votes, told⟩)).acks.length d7) := blk_cell hbg 7
  have tg8 : w7.cell? ⟨g, 8, none⟩ = some (.slice D8 ((Nod.opened ⟨id, n, view, last, works, commit, log, acks, votes, told⟩)).votes.length d8) := blk_cell hbg 8
  have tg9 : w7.cell? ⟨g, 9, none⟩ = some (.slice D9 ((Nod.opened ⟨id, n, view, last, works, commit, log, acks, votes, told⟩)).told.length d9) := blk_cell hbg 9
  have ty0 : w7.cell? ⟨w.heap.size + 1 + 1, 0, none⟩ = some (.int .i64 0) := (blk_cell BY7.out 0).trans rfl
  have tf0 := blk_frozen BY7.out 0
  have ty1 : w7.cell? ⟨w.heap.size + 1 + 1, 1, none⟩ = some (.int .i64 0) := (blk_cell BY7.out 1).trans rfl
  have tf1 := blk_frozen BY7.out 1
  have ty2 : w7.cell? ⟨w.heap.size + 1 + 1, 2, none⟩ = some (.int .i64 0) := (blk_cell BY7.out 2).trans rfl
  have tf2 := blk_frozen BY7.out 2
  have ty3 : w7.cell? ⟨w.heap.size + 1 + 1, 3, none⟩ = some (.int .i64 0) := (blk_cell BY7.out 3).trans rfl
  have tf3 := blk_frozen BY7.out 3
  have ty4 : w7.cell? ⟨w.heap.size + 1 + 1, 4, none⟩ = some (.bool false) := (blk_cell BY7.out 4).trans rfl
  have tf4 := blk_frozen BY7.out 4
  have ty5 : w7.cell? ⟨w.heap.size + 1 + 1, 5, none⟩ = some (.int .i64 0) := (blk_cell BY7.out 5).trans rfl
  have tf5 := blk_frozen BY7.out 5
  have ty6 : w7.cell? ⟨w.heap.size + 1 + 1, 6, none⟩ = some (.slice none 0 0) := (blk_cell BY7.out 6).trans rfl
  have tf6 := blk_frozen BY7.out 6
  have ty7 : w7.cell? ⟨w.heap.size + 1 + 1, 7, none⟩ = some (.slice none 0 0) := (blk_cell BY7.out 7).trans rfl
  have tf7 := blk_frozen BY7.out 7
  have ty8 : w7.cell? ⟨w.heap.size + 1 + 1, 8, none⟩ = some (.slice none 0 0) := (blk_cell BY7.out 8).trans rfl
  have tf8 := blk_frozen BY7.out 8
  have tl0 : w7.cell? ⟨w.heap.size + 1 + 1 + 1, 0, none⟩ = some (.slice none 0 0) := (blk_cell BL7.out 0).trans rfl
  have tl1 := blk_frozen BL7.out 0
  have te0 : w7.cell? ⟨w.heap.size + 1 + 1 + 1 + 1, 0, none⟩ = some (.int .i64 0) := (blk_cell BE7.out 0).trans rfl
  have te1 := blk_frozen BE7.out 0
  have HGE := Aside0.mk (show w.heap.size + 5 ≤ g from by have h1 := HN7.out.ge; have h2 := SZ5.out; omega)
  have ney1 : g ≠ w.heap.size + 1 + 1 := (by have := HGE.out; omega)
  have ney2 : w.heap.size + 1 + 1 ≠ g := (by have := HGE.out; omega)
  have nel1 : g ≠ w.heap.size + 1 + 1 + 1 := (by have := HGE.out; omega)
  have nel2 : w.heap.size + 1 + 1 + 1 ≠ g := (by have := HGE.out; omega)
  have nee1 : g ≠ w.heap.size + 1 + 1 + 1 + 1 := (by have := HGE.out; omega)
  have nee2 : w.heap.size + 1 + 1 + 1 + 1 ≠ g := (by have := HGE.out; omega)
  have nyl : w.heap.size + 1 + 1 ≠ w.heap.size + 1 + 1 + 1 := (by omega)
  have nye : w.heap.size + 1 + 1 ≠ w.heap.size + 1 + 1 + 1 + 1 := (by omega)
  have nle : w.heap.size + 1 + 1 + 1 ≠ w.heap.size + 1 + 1 + 1 + 1 := (by omega)
  have nyl' := nyl.symm
  have nye' := nye.symm
  have nle' := nle.symm
  clear hbg hres
  clear hb7
  go_wp2
  generalize he : w.heap.size + 1 + 1 + 1 + 1 = ge at *
  have HG_e := Aside0.mk he
  clear he
  generalize hl : w.heap.size + 1 + 1 + 1 = gl at *
  have HG_l := Aside0.mk hl
  clear hl
  generalize hy : w.heap.size + 1 + 1 = gy at *
  have HG_y := Aside0.mk hy
  clear hy
  go_region
  all_goals
    go_wp2
    have HST := stores_ret (w7 := w7) BY7.out BL7.out BE7.out nyl nye nle (.int .i64 ((Nod.opened ⟨id, n, view, last, works, commit, log, acks, votes, told⟩)).id) (.int .i64 ((Nod.opened ⟨id, n, view, last, works, commit, log, acks, votes, told⟩)).n) (.int .i64 ((Nod.opened ⟨id, n, view, last, works, commit, log, acks, votes, told⟩)).view) (.int .i64 ((Nod.opened ⟨id, n, view, last, works, commit, log, acks, votes, told⟩)).last) (.bool ((Nod.opened ⟨id, n, view, last, works, commit, log, acks, votes, told⟩)).works) (.int .i64 ((Nod.opened ⟨id, n, view, last, works, commit, log, acks, votes, told⟩)).commit) (.slice D6 ((Nod.opened ⟨id, n, view, last, works, commit, log, acks, votes, told⟩)).log.length d6) (.slice D7 ((Nod.opened ⟨id, n, view, last, works, commit, log, acks, votes, told⟩)).acks.length d7) (.slice D8 ((Nod.opened ⟨id, n, view, last, works, commit, log, acks, votes, told⟩)).votes.length d8) (.slice D9 ((Nod.opened ⟨id, n, view, last, works, commit, log, acks, votes, told⟩)).told.length d9) (.int .i64 0)
    refine leaves_cons (f := 20) (args := #[.pointer (some ⟨gy, 0, none⟩), .pointer (some ⟨gl, 0, none⟩), .pointer (some ⟨ge, 0, none⟩)]) (by simp) (by kernel_rfl) ?_
    refine (caught_idle ⟨gy, 0, none⟩ ⟨gl, 0, none⟩ ⟨ge, 0, none⟩ _).mono ?_
    rintro e u' w9 ⟨rfl, rfl, rfl⟩
    have E1 := HG_e.out
    have E2 := HG_l.out
    have E3 := HG_y.out
    have E4 := SZ5.out
    refine ⟨_, results_8 rfl _ _ gy gl ge 26 _ (0, 0) _ _ rfl rfl rfl HST.1 rfl HST.2.1 HST.2.2.1, _, _, _, _, rfl, (HRES.out _ (fun k hk hl hg => HST.2.2.2.1 k (by omega) (by omega) (by omega))).lower (by omega), HW7.out.trans (HST.2.2.2.2 _ (by omega) (by omega) (by omega))⟩
end Go.Proofs.Ytfpfpckocemmdaa.P
end
section
namespace Go.Proofs.Ytfpfpckocemmdaa.P
open Go.RowKit Go.Proofs.YtfpfpckocemmdaaW.PrintWords Go.Proofs.YtfpfpckocemmdaaW.PrintLast Go.Proofs.YtfpfpckocemmdaaW.PrintMore
set_option linter.unusedVariables false
set_option linter.unusedSimpArgs false
theorem check_run (b : Bool) (K : Int) (W : World) : (Instr.checkKey b 10000 3 (.int .i64 K)).run Try.prog W = .ok () W := by kernel_rfl
theorem find_run (K : Int) (l : List MapEntry) (r : Option (Nat × Value)) (W : World) (hf : Instr.findNow (.int .i64) (.int .i64 K) l 0 = some r) : (Instr.findKey 3 (.int .i64 K) l).run Try.prog W = .ok r W := by
  unfold Instr.findKey
  simp only [Sem.run_bind, run_underlying Try.underlying3, Result.andThen_ok, hf, Sem.run_pure]
theorem ins_run (W : World) (mp : Nat) (es : Array MapEntry) (clock : Nat) (K : Int) (v : Value) (hb : W.heap[mp]? = some (.map es clock)) (hf : Instr.findNow (.int .i64) (.int .i64 K) es.toList 0 = some none) :
    ∃ W', (Instr.mapUpdate 55 (.map (some mp)) (.int .i64 K) v).run Try.prog W = .ok () W' ∧ W'.heap[mp]? = some (.map (es.push { key := .int .i64 K, val := v, born := clock }) (clock + 1)) ∧ (∀ k, k ≠ mp → W'.heap[k]? = W.heap[k]?) ∧ (∀ B, B ≤ mp → Below B W W') := by
  have hlt := blk_lt hb
  refine ⟨ChangeMaps.setBlock W mp (.map (es.push { key := .int .i64 K, val := v, born := clock }) (clock + 1)), ?_, ?_, ?_, ?_⟩
  · unfold Instr.mapUpdate
    simp only [Sem.run_bind, run_underlying Try.underlying55, Result.andThen_ok, MapKept.run_getObj_map hb, check_run, find_run K _ _ _ hf, MapKept.run_setObj_map _ hb]
    rfl
  · simp [ChangeMaps.setBlock, hlt]
  · intro k hk
    simp [ChangeMaps.setBlock, Array.getElem?_setIfInBounds, Ne.symm hk]
  · intro B hB
    refine ⟨rfl, rfl, rfl, by simp [ChangeMaps.setBlock], fun k hk => ?_⟩
    have : k ≠ mp := by omega
    simp [ChangeMaps.setBlock, Array.getElem?_setIfInBounds, Ne.symm this]
theorem look_run (W : World) (mp : Nat) (es : Array MapEntry) (clock : Nat) (K : Int) (v : Value) (i : Nat) (hb : W.heap[mp]? = some (.map es clock)) (hf : Instr.findNow (.int .i64) (.int .i64 K) es.toList 0 = some (some (i, v))) :
    (Instr.lookup 55 (.map (some mp)) (.int .i64 K) false).run Try.prog W = .ok v W := by
  unfold Instr.lookup
  simp only [Sem.run_bind, run_underlying Try.underlying55, Result.andThen_ok, MapKept.run_getObj_map hb, check_run, find_run K _ _ _ hf, Sem.run_pure]
  rfl
theorem msg_facts {m : S28} (h : msgB m = true) : 0 ≤ m.f3 ∧ m.f7.length ≤ 1000 ∧ 0 ≤ m.f1 := by
  unfold msgB at h
  split at h
  · rename_i hw
    simp only [Bool.and_eq_true, withinB_iff] at hw
    refine ⟨hw.2.1, ?_, hw.1.1.1⟩
    split at h
    · simp only [Bool.and_eq_true] at h
      have := (loggedB_len h.1.1).1
      omega
    · split at h
      · simp only [Bool.and_eq_true, decide_eq_true_eq] at h
        omega
      · split at h
        · simp only [Bool.and_eq_true] at h
          have := (loggedB_len h.1.1).1
          omega
        · cases h
  · cases h
theorem opened_votes {x : Nod} (h : Right x) : x.opened.votes.length ≤ 900 := by
  rw [h.opened]
  have h1 := h.count
  have h2 := h.n7
  show x.votes.length ≤ 900
  omega
end Go.Proofs.Ytfpfpckocemmdaa.P
end
section
namespace Go.Proofs.Ytfpfpckocemmdaa.P
open Go.RowKit Go.Proofs.YtfpfpckocemmdaaW.PrintWords Go.Proofs.YtfpfpckocemmdaaW.PrintLast Go.Proofs.YtfpfpckocemmdaaW.PrintMore
set_option linter.unusedVariables false
set_option linter.unusedSimpArgs false
set_option maxHeartbeats 8000000 in
set_option maxRecDepth 100000 in
theorem prepare_not (x : Nod) (m : S28) (A : Option Addr) (c : Nat) (w0 w : World) (base g : Nat) (ok : Nat → Prop) (hn0 : 1 ≤ x.n) (hv : 0 ≤ m.f3) (hp : ¬ m.f3 % x.n = m.f1) (h : Did w0 w base g ok x) :
    Calls Try.prog 23 #[.pointer (some ⟨g, 0, none⟩), .agg #[.int .i64 m.f0, .int .i64 m.f1, .int .i64 m.f2, .int .i64 m.f3, .int .i64 m.f4, .int .i64 m.f5, .int .i64 m.f6, .slice A m.f7.length c]] w fun e w' => e = .returned (.tuple #[]) ∧ Did w0 w' base g ok x := by
  have hu57 := Try.underlying57
  have hu26 := Try.underlying26
  have hu28 := Try.underlying28
  have HN := Aside0.mk h
  have HP := Aside0.mk (primary_of m.f3 x.n hv hn0)
  obtain ⟨A6, c6, A7, c7, A8, c8, A9, c9, hb, -⟩ := (h.boxed (.cells #[.int .i64 m.f0, .int .i64 m.f1, .int .i64 m.f2, .int .i64 m.f3, .int .i64 m.f4, .int .i64 m.f5, .int .i64 m.f6, .slice A m.f7.length c] 28)).blk
  have hc1 : (w.alloc (.cells #[.int .i64 m.f0, .int .i64 m.f1, .int .i64 m.f2, .int .i64 m.f3, .int .i64 m.f4, .int .i64 m.f5, .int .i64 m.f6, .slice A m.f7.length c] 28)).cell? ⟨g, 1, none⟩ = some (.int .i64 x.n) := blk_cell hb 1
  have hbx : (w.alloc (.cells #[.int .i64 m.f0, .int .i64 m.f1, .int .i64 m.f2, .int .i64 m.f3, .int .i64 m.f4, .int .i64 m.f5, .int .i64 m.f6, .slice A m.f7.length c] 28)).cell? ⟨w.heap.size, 3, none⟩ = some (.int .i64 m.f3) := blk_cell (x_alloc_new w _) 3
  have hby : (w.alloc (.cells #[.int .i64 m.f0, .int .i64 m.f1, .int .i64 m.f2, .int .i64 m.f3, .int .i64 m.f4, .int .i64 m.f5, .int .i64 m.f6, .slice A m.f7.length c] 28)).cell? ⟨w.heap.size, 1, none⟩ = some (.int .i64 m.f1) := blk_cell (x_alloc_new w _) 1
  generalize hpp : m.f3 % x.n = p at *
  have e1 : (p == m.f1) = false := beq_eq_false_iff_ne.mpr hp
  have e2 : (p != m.f1) = true := bne_iff_ne.mpr hp
  clear hb h hp hv hn0 hpp
  go_enter Try.func23, Try.ntmps23
  go_wp2
  go_region_held3 (fun W => W.cell? ⟨g, 1, none⟩ = some (.int .i64 x.n) ∧ W.cell? ⟨w.heap.size, 3, none⟩ = some (.int .i64 m.f3))
    (first | exact ⟨hc1, hbx⟩ | go_keep)
    (first | (refine x_step_call rfl Try.func31 (by kernel_rfl) rfl #[.int .i64 m.f3, .int .i64 x.n] rfl (by simp [Act.eval, Act.put]) ?_; refine (quorum_Primary.calls m.f3 x.n p true _ HP.out).mono ?_; rintro e w' ⟨rfl, ⟨nd, rfl⟩⟩; refine ⟨_, rfl, ?_⟩))
  go_wp2
  refine bodyPost_ret (results_none rfl _ _ _) rfl ?_
  exact ⟨rfl, HN.out.unbox ((HN.out.boxed _).drewN _)⟩
end Go.Proofs.Ytfpfpckocemmdaa.P
end
section
namespace Go.Proofs.Ytfpfpckocemmdaa.P
open Go.RowKit Go.Proofs.YtfpfpckocemmdaaW.PrintWords Go.Proofs.YtfpfpckocemmdaaW.PrintLast Go.Proofs.YtfpfpckocemmdaaW.PrintMore
set_option linter.unusedVariables false
set_option linter.unusedSimpArgs false
set_option maxHeartbeats 8000000 in
set_option maxRecDepth 100000 in
theorem prepare_newer (x : Nod) (m : S28) (A : Option Addr) (c : Nat) (w0 w : World) (base g : Nat) (ok : Nat → Prop) (hn0 : 1 ≤ x.n) (hn1 : x.n ≤ 1000) (hv : 0 ≤ m.f3) (hp : m.f3 % x.n = m.f1) (ht : x.told.length ≤ 1000) (hc : m.f7.length ≤ c) (hl : m.f7.length ≤ 1000) (hl0 : x.log.length ≤ 1000) (hM : ∀ W, Below base w0 W → Kd.C Kd.string W A m.f7.length m.f7) (hw : m.f3 > x.view) (h : Did w0 w base g ok x) :
    Calls Try.prog 23 #[.pointer (some ⟨g, 0, none⟩), .agg #[.int .i64 m.f0, .int .i64 m.f1, .int .i64 m.f2, .int .i64 m.f3, .int .i64 m.f4, .int .i64 m.f5, .int .i64 m.f6, .slice A m.f7.length c]] w fun e w' => e = .returned (.tuple #[]) ∧ Did w0 w' base g ok (let z := (x.takes m).settle m; z.say (z.ackOf m)) := by
  have hu57 := Try.underlying57
  have hu26 := Try.underlying26
  have hu28 := Try.underlying28
  have HN := Aside0.mk h
  have HD := Aside0.mk (h.boxed (.cells #[.int .i64 m.f0, .int .i64 m.f1, .int .i64 m.f2, .int .i64 m.f3, .int .i64 m.f4, .int .i64 m.f5, .int .i64 m.f6, .slice A m.f7.length c] 28))
  have HP := Aside0.mk (primary_of m.f3 x.n hv hn0)
  have HCL := Aside0.mk (show slices_Clone_string_string.f m.f7 = some m.f7 from if_pos (by omega))
  have HCC := Aside0.mk hc
  have HM := Aside0.mk hM
  have HN0 := Aside0.mk hn0
  have HN1 := Aside0.mk hn1
  have HT := Aside0.mk ht
  have HL := Aside0.mk hl
  have HL0 := Aside0.mk hl0
  have hlt := h.1.lt
  obtain ⟨A6, c6, A7, c7, A8, c8, A9, c9, hb, -⟩ := HD.out.blk
  have HB := Aside0.mk hb
  have hc1 : (w.alloc (.cells #[.int .i64 m.f0, .int .i64 m.f1, .int .i64 m.f2, .int .i64 m.f3, .int .i64 m.f4, .int .i64 m.f5, .int .i64 m.f6, .slice A m.f7.length c] 28)).cell? ⟨g, 1, none⟩ = some (.int .i64 x.n) := blk_cell hb 1
  have hc2 : (w.alloc (.cells #[.int .i64 m.f0, .int .i64 m.f1, .int .i64 m.f2, .int .i64 m.f3, .int .i64 m.f4, .int .i64 m.f5, .int .i64 m.f6, .slice A m.f7.length c] 28)).cell? ⟨g, 2, none⟩ = some (.int .i64 x.view) := blk_cell hb 2
  have hc3 : (w.alloc (.cells #[.int .i64 m.f0, .int .i64 m.f1, .int .i64 m.f2, .int .i64 m.f3, .int .i64 m.f4, .int .i64 m.f5, .int .i64 m.f6, .slice A m.f7.length c] 28)).cell? ⟨g, 3, none⟩ = some (.int .i64 x.last) := blk_cell hb 3
  have hc4 : (w.alloc (.cells #[.int .i64 m.f0, .int .i64 m.f1, .int .i64 m.f2, .int .i64 m.f3, .int .i64 m.f4, .int .i64 m.f5, .int .i64 m.f6, .slice A m.f7.length c] 28)).cell? ⟨g, 4, none⟩ = some (.bool x.works) := blk_cell hb 4
  have hc5 : (w.alloc (.cells #[.int .i64 m.f0, .int .i64 m.f1, .int .i64 m.f2, .int .i64 m.f3, .int .i64 m.f4, .int .i64 m.f5, .int .i64 m.f6, .slice A m.f7.length c] 28)).cell? ⟨g, 5, none⟩ = some (.int .i64 x.commit) := blk_cell hb 5
  have hc6 : (w.alloc (.cells #[.int .i64 m.f0, .int .i64 m.f1, .int .i64 m.f2, .int .i64 m.f3, .int .i64 m.f4, .int .i64 m.f5, .int .i64 m.f6, .slice A m.f7.length c] 28)).cell? ⟨g, 6, none⟩ = some (.slice A6 x.log.length c6) := blk_cell hb 6
  have hf2 : (w.alloc (.cells #[.int .i64 m.f0, .int .i64 m.f1, .int .i64 m.f2, .int .i64 m.f3, .int .i64 m.f4, .int .i64 m.f5, .int .i64 m.f6, .slice A m.f7.length c] 28)).frozen? ⟨g, 2, none⟩ = false := blk_frozen hb 2
  have hf3 : (w.alloc (.cells #[.int .i64 m.f0, .int .i64 m.f1, .int .i64 m.f2, .int .i64 m.f3, .int .i64 m.f4, .int .i64 m.f5, .int .i64 m.f6, .slice A m.f7.length c] 28)).frozen? ⟨g, 3, none⟩ = false := blk_frozen hb 3
  have hf4 : (w.alloc (.cells #[.int .i64 m.f0, .int .i64 m.f1, .int .i64 m.f2, .int .i64 m.f3, .int .i64 m.f4, .int .i64 m.f5, .int .i64 m.f6, .slice A m.f7.length c] 28)).frozen? ⟨g, 4, none⟩ = false := blk_frozen hb 4
  have hf5 : (w.alloc (.cells #[.int .i64 m.f0, .int .i64 m.f1, .int .i64 m.f2, .int .i64 m.f3, .int .i64 m.f4, .int .i64 m.f5, .int .i64 m.f6, .slice A m.f7.length c] 28)).frozen? ⟨g, 5, none⟩ = false := blk_frozen hb 5
  have hf6 : (w.alloc (.cells #[.int .i64 m.f0, .int .i64 m.f1, .int .i64 m.f2, .int .i64 m.f3, .int .i64 m.f4, .int .i64 m.f5, .int .i64 m.f6, .slice A m.f7.length c] 28)).frozen? ⟨g, 6, none⟩ = false := blk_frozen hb 6
  have hb1 : (w.alloc (.cells #[.int .i64 m.f0, .int .i64 m.f1, .int .i64 m.f2, .int .i64 m.f3, .int .i64 m.f4, .int .i64 m.f5, .int .i64 m.f6, .slice A m.f7.length c] 28)).cell? ⟨w.heap.size, 1, none⟩ = some (.int .i64 m.f1) := blk_cell (x_alloc_new w _) 1
  have hb3 : (w.alloc (.cells #[.int .i64 m.f0, .int .i64 m.f1, .int .i64 m.f2, .int .i64 m.f3, .int .i64 m.f4, .int .i64 m.f5, .int .i64 m.f6, .slice A m.f7.length c] 28)).cell? ⟨w.heap.size, 3, none⟩ = some (.int .i64 m.f3) := blk_cell (x_alloc_new w _) 3
  have hb5 : (w.alloc (.cells #[.int .i64 m.f0, .int .i64 m.f1, .int .i64 m.f2, .int .i64 m.f3, .int .i64 m.f4, .int .i64 m.f5, .int .i64 m.f6, .slice A m.f7.length c] 28)).cell? ⟨w.heap.size, 5, none⟩ = some (.int .i64 m.f5) := blk_cell (x_alloc_new w _) 5
  have hb7 : (w.alloc (.cells #[.int .i64 m.f0, .int .i64 m.f1, .int .i64 m.f2, .int .i64 m.f3, .int .i64 m.f4, .int .i64 m.f5, .int .i64 m.f6, .slice A m.f7.length c] 28)).cell? ⟨w.heap.size, 7, none⟩ = some (.slice A m.f7.length c) := blk_cell (x_alloc_new w _) 7
  have hne1 : g ≠ w.heap.size := by have : g < w.heap.size := hlt; omega
  have hne2 : w.heap.size ≠ g := hne1.symm
  generalize hpp : m.f3 % x.n = p at *
  have e1 : (p == m.f1) = true := beq_iff_eq.mpr hp
  have e2 : (p != m.f1) = false := bne_eq_false_iff_eq.mpr hp
  have HPP := Aside0.mk hp
  clear hb h hp hv hn0 hpp hc hl hl0 ht hn1 hM hlt
  obtain ⟨y, hy⟩ : ∃ y, y = x.takes m := ⟨_, rfl⟩
  have HE := Aside0.mk (show y = Nod.clear { x with view := m.f3, works := true, last := m.f3, log := m.f7 } by rw [hy]; unfold Nod.takes; rw [if_pos (.inl hw)])
  have HTY := Aside0.mk (show y.told.length ≤ 100000 by rw [HE.out]; have := HT.out; show x.told.length ≤ _; omega)
  have HZ := Aside0.mk (show (let z := (x.takes m).settle m; z.say (z.ackOf m)) = (y.settle m).say ((y.settle m).ackOf m) by rw [hy])
  clear hy
  have g1 : decide (m.f3 > x.view) = true := decide_eq_true hw
  have g2 : decide (x.view < m.f3) = true := decide_eq_true hw
  clear hw
  go_enter Try.func23, Try.ntmps23
  go_wp2
  go_region_held3 (fun W => W.cell? ⟨g, 1, none⟩ = some (.int .i64 x.n) ∧ W.cell? ⟨w.heap.size, 3, none⟩ = some (.int .i64 m.f3))
    (first | exact ⟨hc1, hb3⟩ | go_keep)
    (first | (refine x_step_call rfl Try.func31 (by kernel_rfl) rfl #[.int .i64 m.f3, .int .i64 x.n] rfl (by simp [Act.eval, Act.put]) ?_; refine (quorum_Primary.calls m.f3 x.n p true _ HP.out).mono ?_; rintro e w' ⟨rfl, ⟨nd, rfl⟩⟩; refine ⟨_, rfl, ?_⟩))
  rename_i hh
  clear hh
  go_wp2
  go_region
  go_wp2
  go_region
  go_wp2_with (first | (go_at_call 42; refine (slices_Clone_string_string.calls A c m.f7 m.f7 _ (HN.out.reads HM.out ((((HD.out.drewN _).set_view m.f3).set_works true).set_last m.f3)) HCC.out HCL.out).mono ?_; rintro e w4 ⟨v4, rfl, hR4, hb4⟩; obtain ⟨A4, c4, rfl⟩ := Kd.R_slice hR4; have HD4 := Aside0.mk (((((HD.out.drewN _).set_view m.f3).set_works true).set_last m.f3).set_log hb4 (Nat.le_refl _) hR4); obtain ⟨D6, d6, D7, d7, D8, d8, D9, d9, hbk, -⟩ := (((((HD.out.drewN _).set_view m.f3).set_works true).set_last m.f3).below hb4).blk; have hs6 : w4.cell? ⟨g, 6, none⟩ = some _ := blk_cell hbk 6; have ht6 : w4.frozen? ⟨g, 6, none⟩ = false := blk_frozen hbk 6; clear hbk hb4 hR4) | (go_at_call 39; refine (clear_did { x with view := m.f3, works := true, last := m.f3, log := m.f7 } _ _ base g _ (by have := HN0.out; show 0 ≤ x.n; omega) HN1.out HD4.out).mono ?_; rintro e w6 ⟨rfl, h6⟩; rw [← HE.out] at h6; have HD6 := Aside0.mk h6; have HBX6 := Aside0.mk h6.box; obtain ⟨D6, d6, D7, d7, D8, d8, D9, d9, hbk, -⟩ := h6.blk; have HBK6 := Aside0.mk hbk; have hr5 : w6.cell? ⟨g, 5, none⟩ = some (.int .i64 y.commit) := blk_cell hbk 5; have hr6 : w6.cell? ⟨g, 6, none⟩ = some (.slice D6 y.log.length d6) := blk_cell hbk 6; have hq5 : w6.frozen? ⟨g, 5, none⟩ = false := blk_frozen hbk 5; have hx5 : w6.cell? ⟨w.heap.size, 5, none⟩ = some (.int .i64 m.f5) := blk_cell HBX6.out 5; clear h6 hbk))
  go_region
  go_wp2
  have HD7 := Aside0.mk (show Did _ ((w6.setCell ⟨g, 5, none⟩ (.int .i64 (min (max y.commit m.f5) (y.log.length : Int)))).drew) base g _ (y.settle m) from (HD6.out.set_commit (min (max y.commit m.f5) (y.log.length : Int))).drew)
  clear hc1 hc2 hc3 hc4 hc5 hc6 hf2 hf3 hf4 hf5 hf6 hb1 hb3 hb5 hb7
  clear hr5 hr6 hq5 hx5
  generalize hW7 : (w6.setCell ⟨g, 5, none⟩ (.int .i64 (min (max y.commit m.f5) (y.log.length : Int)))).drew = W7 at *
  clear hW7
  have HBX7 := Aside0.mk HD7.out.box
  obtain ⟨E6, f6, E7, f7, E8, f8, E9, f9, hbk, -⟩ := HD7.out.blk
  have HBK7 := Aside0.mk hbk
  have hs0 : W7.cell? ⟨g, 0, none⟩ = some (.int .i64 (y.settle m).id) := blk_cell hbk 0
  have hs2 : W7.cell? ⟨g, 2, none⟩ = some (.int .i64 (y.settle m).view) := blk_cell hbk 2
  have hs6 : W7.cell? ⟨g, 6, none⟩ = some (.slice E6 (y.settle m).log.length f6) := blk_cell hbk 6
  have hs9 : W7.cell? ⟨g, 9, none⟩ = some (.slice E9 (y.settle m).told.length f9) := blk_cell hbk 9
  have hx1 : W7.cell? ⟨w.heap.size, 1, none⟩ = some (.int .i64 m.f1) := blk_cell HBX7.out 1
  have HC9 := Aside0.mk (show W7.drew.cell? ⟨g, 9, none⟩ = _ from hs9)
  have HTI := Aside0.mk (show (y.settle m).told.length ≤ 100000 from HTY.out)
  have HBKD := Aside0.mk (show W7.drew.heap[g]? = some _ from hbk)
  have HBXD := Aside0.mk (show W7.drew.heap[w.heap.size]? = some _ from HBX7.out)
  have HNE := Aside0.mk hne1
  clear hbk
  generalize hz : y.settle m = z at *
  rw [ldTold_eq 103]
  go_region_held3 (fun W => W.cell? ⟨g, 0, none⟩ = some (.int .i64 z.id) ∧ W.cell? ⟨g, 2, none⟩ = some (.int .i64 z.view) ∧ W.cell? ⟨g, 6, none⟩ = some (.slice E6 z.log.length f6) ∧ W.cell? ⟨w.heap.size, 1, none⟩ = some (.int .i64 m.f1))
    (first
      | exact ⟨hs0, hs2, hs6, hx1⟩
      | exact ⟨blk_cell HBK8.out 0, blk_cell HBK8.out 2, blk_cell HBK8.out 6, blk_cell HBX8.out 1⟩
      | exact ⟨blk_cell (blk_alloc HBK8.out _) 0, blk_cell (blk_alloc HBK8.out _) 2, blk_cell (blk_alloc HBK8.out _) 6, blk_cell (blk_alloc HBX8.out _) 1⟩
      | exact ⟨blk_cell HBK4.out 0, blk_cell HBK4.out 2, blk_cell HBK4.out 6, blk_cell HBX4.out 1⟩
      | exact ⟨blk_cell HBK5.out 0, blk_cell HBK5.out 2, blk_cell HBK5.out 6, blk_cell HBX5.out 1⟩)
    (first
      | (refine x_step_call rfl Try.func46 (by kernel_rfl) rfl #[.int .i64 z.id, .int .i64 m.f1, .int .i64 z.view, .int .i64 (z.log.length : Int)] rfl (by simp [Act.eval, Act.put]) ?_; refine (ack_calls z.id m.f1 z.view (z.log.length : Int) W7.drew).mono ?_; rintro e w8 ⟨rfl, hb8⟩; have HB8 := Aside0.mk hb8; have HBK8 := Aside0.mk ((hb8.block g (blk_lt HBKD.out)).trans HBKD.out); have HBX8 := Aside0.mk ((hb8.block w.heap.size (blk_lt HBXD.out)).trans HBXD.out); have hs9' : ∀ o, (w8.alloc o).cell? ⟨g, 9, none⟩ = some (.slice E9 z.told.length f9) := fun o => blk_cell (blk_alloc HBK8.out o) 9; have hs9'' : w8.cell? ⟨g, 9, none⟩ = some (.slice E9 z.told.length f9) := blk_cell HBK8.out 9; clear hb8; refine ⟨_, rfl, ?_⟩)
      | (refine say_step (z.ackOf m) E9 f9 none 0 (HD7.out.drew) HB8.out (HC9.out) (Kd.R_nil _ _ _ _ _) HTI.out rfl (.tmp 104) (.tmp 124) rfl rfl rfl ?_; intro v1 w9 hd9 hg9 hv9; obtain ⟨A1, c1, rfl⟩ := hv9; have HD9 := Aside0.mk hd9; have HBK4 := Aside0.mk (hg9.trans HBKD.out); have HBX4 := Aside0.mk ((blk_far_inv (p := ⟨g, 9, none⟩) hd9.box HNE.out.symm)); have HBX5 := Aside0.mk hd9.box; have HBK5 := Aside0.mk (blk_put (cs' := z.cells (.slice E6 z.log.length f6) (.slice E7 z.acks.length f7) (.slice E8 z.votes.length f8) (.slice A1 (z.say (z.ackOf m)).told.length c1)) HBK4.out 9 (.slice A1 (z.say (z.ackOf m)).told.length c1) rfl); have hr9 : w9.cell? ⟨g, 9, none⟩ = some (.slice E9 z.told.length f9) := blk_cell HBK4.out 9; have hf9 : w9.frozen? ⟨g, 9, none⟩ = false := blk_frozen HBK4.out 9; clear hd9 hg9))
  all_goals
    go_wp2
    go_end0
    exact ⟨rfl, by rw [HZ.out]; exact HN.out.unbox HD9.out⟩
end Go.Proofs.Ytfpfpckocemmdaa.P
end
section
namespace Go.Proofs.Ytfpfpckocemmdaa.P
open Go.RowKit Go.Proofs.YtfpfpckocemmdaaW.PrintWords Go.Proofs.YtfpfpckocemmdaaW.PrintLast Go.Proofs.YtfpfpckocemmdaaW.PrintMore
set_option linter.unusedVariables false
set_option linter.unusedSimpArgs false
set_option maxHeartbeats 8000000 in
set_option maxRecDepth 100000 in
theorem prepare_longer (x : Nod) (m : S28) (A : Option Addr) (c : Nat) (w0 w : World) (base g : Nat) (ok : Nat → Prop) (hn0 : 1 ≤ x.n) (hn1 : x.n ≤ 1000) (hv : 0 ≤ m.f3) (hp : m.f3 % x.n = m.f1) (ht : x.told.length ≤ 1000) (hc : m.f7.length ≤ c) (hl : m.f7.length ≤ 1000) (hl0 : x.log.length ≤ 1000) (hM : ∀ W, Below base w0 W → Kd.C Kd.string W A m.f7.length m.f7) (hw : x.works = true) (hv2 : ¬ m.f3 > x.view) (hll :  m.f7.length > x.log.length) (h : Did w0 w base g ok x) :
    Calls Try.prog 23 #[.pointer (some ⟨g, 0, none⟩), .agg #[.int .i64 m.f0, .int .i64 m.f1, .int .i64 m.f2, .int .i64 m.f3, .int .i64 m.f4, .int .i64 m.f5, .int .i64 m.f6, .slice A m.f7.length c]] w fun e w' => e = .returned (.tuple #[]) ∧ Did w0 w' base g ok (let z := (x.takes m).settle m; z.say (z.ackOf m)) := by
  have hu57 := Try.underlying57
  have hu26 := Try.underlying26
  have hu28 := Try.underlying28
  have HN := Aside0.mk h
  have HD := Aside0.mk (h.boxed (.cells #[.int .i64 m.f0, .int .i64 m.f1, .int .i64 m.f2, .int .i64 m.f3, .int .i64 m.f4, .int .i64 m.f5, .int .i64 m.f6, .slice A m.f7.length c] 28))
  have HP := Aside0.mk (primary_of m.f3 x.n hv hn0)
  have HCL := Aside0.mk (show slices_Clone_string_string.f m.f7 = some m.f7 from if_pos (by omega))
  have HCC := Aside0.mk hc
  have HM := Aside0.mk hM
  have HN0 := Aside0.mk hn0
  have HN1 := Aside0.mk hn1
  have HT := Aside0.mk ht
  have HL := Aside0.mk hl
  have HL0 := Aside0.mk hl0
  have hlt := h.1.lt
  obtain ⟨A6, c6, A7, c7, A8, c8, A9, c9, hb, -⟩ := HD.out.blk
  have HB := Aside0.mk hb
  have hc1 : (w.alloc (.cells #[.int .i64 m.f0, .int .i64 m.f1, .int .i64 m.f2, .int .i64 m.f3, .int .i64 m.f4, .int .i64 m.f5, .int .i64 m.f6, .slice A m.f7.length c] 28)).cell? ⟨g, 1, none⟩ = some (.int .i64 x.n) := blk_cell hb 1
  have hc2 : (w.alloc (.cells #[.int .i64 m.f0, .int .i64 m.f1, .int .i64 m.f2, .int .i64 m.f3, .int .i64 m.f4, .int .i64 m.f5, .int .i64 m.f6, .slice A m.f7.length c] 28)).cell? ⟨g, 2, none⟩ = some (.int .i64 x.view) := blk_cell hb 2
  have hc3 : (w.alloc (.cells #[.int .i64 m.f0, .int .i64 m.f1, .int .i64 m.f2, .int .i64 m.f3, .int .i64 m.f4, .int .i64 m.f5, .int .i64 m.f6, .slice A m.f7.length c] 28)).cell? ⟨g, 3, none⟩ = some (.int .i64 x.last) := blk_cell hb 3
  have hc4 : (w.alloc (.cells #[.int .i64 m.f0, .int .i64 m.f1, .int .i64 m.f2, .int .i64 m.f3, .int .i64 m.f4, .int .i64 m.f5, .int .i64 m.f6, .slice A m.f7.length c] 28)).cell? ⟨g, 4, none⟩ = some (.bool x.works) := blk_cell hb 4
  have hc5 : (w.alloc (.cells #[.int .i64 m.f0, .int .i64 m.f1, .int .i64 m.f2, .int .i64 m.f3, .int .i64 m.f4, .int .i64 m.f5, .int .i64 m.f6, .slice A m.f7.length c] 28)).cell? ⟨g, 5, none⟩ = some (.int .i64 x.commit) := blk_cell hb 5
  have hc6 : (w.alloc (.cells #[.int .i64 m.f0, .int .i64 m.f1, .int .i64 m.f2, .int .i64 m.f3, .int .i64 m.f4, .int .i64 m.f5, .int .i64 m.f6, .slice A m.f7.length c] 28)).cell? ⟨g, 6, none⟩ = some (.slice A6 x.log.length c6) := blk_cell hb 6
  have hf2 : (w.alloc (.cells #[.int .i64 m.f0, .int .i64 m.f1, .int .i64 m.f2, .int .i64 m.f3, .int .i64 m.f4, .int .i64 m.f5, .int .i64 m.f6, .slice A m.f7.length c] 28)).frozen? ⟨g, 2, none⟩ = false := blk_frozen hb 2
  have hf3 : (w.alloc (.cells #[.int .i64 m.f0, .int .i64 m.f1, .int .i64 m.f2, .int .i64 m.f3, .int .i64 m.f4, .int .i64 m.f5, .int .i64 m.f6, .slice A m.f7.length c] 28)).frozen? ⟨g, 3, none⟩ = false := blk_frozen hb 3
  have hf4 : (w.alloc (.cells #[.int .i64 m.f0, .int .i64 m.f1, .int .i64 m.f2, .int .i64 m.f3, .int .i64 m.f4, .int .i64 m.f5, .int .i64 m.f6, .slice A m.f7.length c] 28)).frozen? ⟨g, 4, none⟩ = false := blk_frozen hb 4
  have hf5 : (w.alloc (.cells #[.int .i64 m.f0, .int .i64 m.f1, .int .i64 m.f2, .int .i64 m.f3, .int .i64 m.f4, .int .i64 m.f5, .int .i64 m.f6, .slice A m.f7.length c] 28)).frozen? ⟨g, 5, none⟩ = false := blk_frozen hb 5
  have hf6 : (w.alloc (.cells #[.int .i64 m.f0, .int .i64 m.f1, .int .i64 m.f2, .int .i64 m.f3, .int .i64 m.f4, .int .i64 m.f5, .int .i64 m.f6, .slice A m.f7.length c] 28)).frozen? ⟨g, 6, none⟩ = false := blk_frozen hb 6
  have hb1 : (w.alloc (.cells #[.int .i64 m.f0, .int .i64 m.f1, .int .i64 m.f2, .int .i64 m.f3, .int .i64 m.f4, .int .i64 m.f5, .int .i64 m.f6, .slice A m.f7.length c] 28)).cell? ⟨w.heap.size, 1, none⟩ = some (.int .i64 m.f1) := blk_cell (x_alloc_new w _) 1
  have hb3 : (w.alloc (.cells #[.int .i64 m.f0, .int .i64 m.f1, .int .i64 m.f2, .int .i64 m.f3, .int .i64 m.f4, .int .i64 m.f5, .int .i64 m.f6, .slice A m.f7.length c] 28)).cell? ⟨w.heap.size, 3, none⟩ = some (.int .i64 m.f3) := blk_cell (x_alloc_new w _) 3
  have hb5 : (w.alloc (.cells #[.int .i64 m.f0, .int .i64 m.f1, .int .i64 m.f2, .int .i64 m.f3, .int .i64 m.f4, .int .i64 m.f5, .int .i64 m.f6, .slice A m.f7.length c] 28)).cell? ⟨w.heap.size, 5, none⟩ = some (.int .i64 m.f5) := blk_cell (x_alloc_new w _) 5
  have hb7 : (w.alloc (.cells #[.int .i64 m.f0, .int .i64 m.f1, .int .i64 m.f2, .int .i64 m.f3, .int .i64 m.f4, .int .i64 m.f5, .int .i64 m.f6, .slice A m.f7.length c] 28)).cell? ⟨w.heap.size, 7, none⟩ = some (.slice A m.f7.length c) := blk_cell (x_alloc_new w _) 7
  have hne1 : g ≠ w.heap.size := by have : g < w.heap.size := hlt; omega
  have hne2 : w.heap.size ≠ g := hne1.symm
  generalize hpp : m.f3 % x.n = p at *
  have e1 : (p == m.f1) = true := beq_iff_eq.mpr hp
  have e2 : (p != m.f1) = false := bne_eq_false_iff_eq.mpr hp
  have HPP := Aside0.mk hp
  clear hb h hp hv hn0 hpp hc hl hl0 ht hn1 hM hlt
  obtain ⟨y, hy⟩ : ∃ y, y = x.takes m := ⟨_, rfl⟩
  have HE := Aside0.mk (show y = { x with log := m.f7 } by rw [hy]; unfold Nod.takes; rw [if_neg (by simp [hw]; omega), if_pos hll])
  have HTY := Aside0.mk (show y.told.length ≤ 100000 by rw [HE.out]; have := HT.out; show x.told.length ≤ _; omega)
  have HZ := Aside0.mk (show (let z := (x.takes m).settle m; z.say (z.ackOf m)) = (y.settle m).say ((y.settle m).ackOf m) by rw [hy])
  clear hy
  have g1 : decide (m.f3 > x.view) = false := decide_eq_false hv2
  have g2 : decide (x.view < m.f3) = false := decide_eq_false hv2
  rw [hw] at hc4
  have g3 : decide ((m.f7.length : Int) > (x.log.length : Int)) = true := decide_eq_true (by omega)
  have g4 : decide ((x.log.length : Int) < (m.f7.length : Int)) = true := decide_eq_true (by omega)
  have g5 : (x.log.length < m.f7.length) = True := eq_true hll
  clear hw hv2 hll
  go_enter Try.func23, Try.ntmps23
  go_wp2
  go_region_held3 (fun W => W.cell? ⟨g, 1, none⟩ = some (.int .i64 x.n) ∧ W.cell? ⟨w.heap.size, 3, none⟩ = some (.int .i64 m.f3))
    (first | exact ⟨hc1, hb3⟩ | go_keep)
    (first | (refine x_step_call rfl Try.func31 (by kernel_rfl) rfl #[.int .i64 m.f3, .int .i64 x.n] rfl (by simp [Act.eval, Act.put]) ?_; refine (quorum_Primary.calls m.f3 x.n p true _ HP.out).mono ?_; rintro e w' ⟨rfl, ⟨nd, rfl⟩⟩; refine ⟨_, rfl, ?_⟩))
  rename_i hh
  clear hh
  go_wp2
  go_region
  go_wp2
  go_region
  go_wp2_with (first | (go_at_call 42; refine (slices_Clone_string_string.calls A c m.f7 m.f7 _ (HN.out.reads HM.out (HD.out.drewN _)) HCC.out HCL.out).mono ?_; rintro e w4 ⟨v4, rfl, hR4, hb4⟩; obtain ⟨A4, c4, rfl⟩ := Kd.R_slice hR4; have HD4 := Aside0.mk ((HD.out.drewN _).set_log hb4 (Nat.le_refl _) hR4); obtain ⟨D6, d6, D7, d7, D8, d8, D9, d9, hbk, -⟩ := ((HD.out.drewN _).below hb4).blk; have hs6 : w4.cell? ⟨g, 6, none⟩ = some _ := blk_cell hbk 6; have ht6 : w4.frozen? ⟨g, 6, none⟩ = false := blk_frozen hbk 6; clear hbk hb4 hR4))
  have h6 := HD4.out
  rw [← HE.out] at h6
  generalize hw6 : w4.setCell ⟨g, 6, none⟩ (.slice A4 m.f7.length c4) = w6 at *
  have HD6 := Aside0.mk h6
  have HBX6 := Aside0.mk h6.box
  obtain ⟨D6, d6, D7, d7, D8, d8, D9, d9, hbk, -⟩ := h6.blk
  have hr5 : w6.cell? ⟨g, 5, none⟩ = some (.int .i64 y.commit) := blk_cell hbk 5
  have hr6 : w6.cell? ⟨g, 6, none⟩ = some (.slice D6 y.log.length d6) := blk_cell hbk 6
  have hq5 : w6.frozen? ⟨g, 5, none⟩ = false := blk_frozen hbk 5
  have hx5 : w6.cell? ⟨w.heap.size, 5, none⟩ = some (.int .i64 m.f5) := blk_cell HBX6.out 5
  clear h6 hbk hs6 ht6 HD4 hw6
  go_region
  go_wp2
  have HD7 := Aside0.mk (show Did _ ((w6.setCell ⟨g, 5, none⟩ (.int .i64 (min (max y.commit m.f5) (y.log.length : Int)))).drew) base g _ (y.settle m) from (HD6.out.set_commit (min (max y.commit m.f5) (y.log.length : Int))).drew)
  clear hc1 hc2 hc3 hc4 hc5 hc6 hf2 hf3 hf4 hf5 hf6 hb1 hb3 hb5 hb7
  clear hr5 hr6 hq5 hx5
  generalize hW7 : (w6.setCell ⟨g, 5, none⟩ (.int .i64 (min (max y.commit m.f5) (y.log.length : Int)))).drew = W7 at *
  clear hW7
  have HBX7 := Aside0.mk HD7.out.box
  obtain ⟨E6, f6, E7, f7, E8, f8, E9, f9, hbk, -⟩ := HD7.out.blk
  have HBK7 := Aside0.mk hbk
  have hs0 : W7.cell? ⟨g, 0, none⟩ = some (.int .i64 (y.settle m).id) := blk_cell hbk 0
  have hs2 : W7.cell? ⟨g, 2, none⟩ = some (.int .i64 (y.settle m).view) := blk_cell hbk 2
  have hs6 : W7.cell? ⟨g, 6, none⟩ = some (.slice E6 (y.settle m).log.length f6) := blk_cell hbk 6
  have hs9 : W7.cell? ⟨g, 9, none⟩ = some (.slice E9 (y.settle m).told.length f9) := blk_cell hbk 9
  have hx1 : W7.cell? ⟨w.heap.size, 1, none⟩ = some (.int .i64 m.f1) := blk_cell HBX7.out 1
  have HC9 := Aside0.mk (show W7.drew.cell? ⟨g, 9, none⟩ = _ from hs9)
  have HTI := Aside0.mk (show (y.settle m).told.length ≤ 100000 from HTY.out)
  have HBKD := Aside0.mk (show W7.drew.heap[g]? = some _ from hbk)
  have HBXD := Aside0.mk (show W7.drew.heap[w.heap.size]? = some _ from HBX7.out)
  have HNE := Aside0.mk hne1
  clear hbk
  generalize hz : y.settle m = z at *
  rw [ldTold_eq 103]
  go_region_held3 (fun W => W.cell? ⟨g, 0, none⟩ = some (.int .i64 z.id) ∧ W.cell? ⟨g, 2, none⟩ = some (.int .i64 z.view) ∧ W.cell? ⟨g, 6, none⟩ = some (.slice E6 z.log.length f6) ∧ W.cell? ⟨w.heap.size, 1, none⟩ = some (.int .i64 m.f1))
    (first
      | exact ⟨hs0, hs2, hs6, hx1⟩
      | exact ⟨blk_cell HBK8.out 0, blk_cell HBK8.out 2, blk_cell HBK8.out 6, blk_cell HBX8.out 1⟩
      | exact ⟨blk_cell (blk_alloc HBK8.out _) 0, blk_cell (blk_alloc HBK8.out _) 2, blk_cell (blk_alloc HBK8.out _) 6, blk_cell (blk_alloc HBX8.out _) 1⟩
      | exact ⟨blk_cell HBK4.out 0, blk_cell HBK4.out 2, blk_cell HBK4.out 6, blk_cell HBX4.out 1⟩
      | exact ⟨blk_cell HBK5.out 0, blk_cell HBK5.out 2, blk_cell HBK5.out 6, blk_cell HBX5.out 1⟩)
    (first
      | (refine x_step_call rfl Try.func46 (by kernel_rfl) rfl #[.int .i64 z.id, .int .i64 m.f1, .int .i64 z.view, .int .i64 (z.log.length : Int)] rfl (by simp [Act.eval, Act.put]) ?_; refine (ack_calls z.id m.f1 z.view (z.log.length : Int) W7.drew).mono ?_; rintro e w8 ⟨rfl, hb8⟩; have HB8 := Aside0.mk hb8; have HBK8 := Aside0.mk ((hb8.block g (blk_lt HBKD.out)).trans HBKD.out); have HBX8 := Aside0.mk ((hb8.block w.heap.size (blk_lt HBXD.out)).trans HBXD.out); have hs9' : ∀ o, (w8.alloc o).cell? ⟨g, 9, none⟩ = some (.slice E9 z.told.length f9) := fun o => blk_cell (blk_alloc HBK8.out o) 9; have hs9'' : w8.cell? ⟨g, 9, none⟩ = some (.slice E9 z.told.length f9) := blk_cell HBK8.out 9; clear hb8; refine ⟨_, rfl, ?_⟩)
      | (refine say_step (z.ackOf m) E9 f9 none 0 (HD7.out.drew) HB8.out (HC9.out) (Kd.R_nil _ _ _ _ _) HTI.out rfl (.tmp 104) (.tmp 124) rfl rfl rfl ?_; intro v1 w9 hd9 hg9 hv9; obtain ⟨A1, c1, rfl⟩ := hv9; have HD9 := Aside0.mk hd9; have HBK4 := Aside0.mk (hg9.trans HBKD.out); have HBX4 := Aside0.mk ((blk_far_inv (p := ⟨g, 9, none⟩) hd9.box HNE.out.symm)); have HBX5 := Aside0.mk hd9.box; have HBK5 := Aside0.mk (blk_put (cs' := z.cells (.slice E6 z.log.length f6) (.slice E7 z.acks.length f7) (.slice E8 z.votes.length f8) (.slice A1 (z.say (z.ackOf m)).told.length c1)) HBK4.out 9 (.slice A1 (z.say (z.ackOf m)).told.length c1) rfl); have hr9 : w9.cell? ⟨g, 9, none⟩ = some (.slice E9 z.told.length f9) := blk_cell HBK4.out 9; have hf9 : w9.frozen? ⟨g, 9, none⟩ = false := blk_frozen HBK4.out 9; clear hd9 hg9))
  all_goals
    go_wp2
    go_end0
    exact ⟨rfl, by rw [HZ.out]; exact HN.out.unbox HD9.out⟩
end Go.Proofs.Ytfpfpckocemmdaa.P
end
section
namespace Go.Proofs.Ytfpfpckocemmdaa.P
open Go.RowKit Go.Proofs.YtfpfpckocemmdaaW.PrintWords Go.Proofs.YtfpfpckocemmdaaW.PrintLast Go.Proofs.YtfpfpckocemmdaaW.PrintMore
set_option linter.unusedVariables false
set_option linter.unusedSimpArgs false
set_option maxHeartbeats 8000000 in
set_option maxRecDepth 100000 in
theorem prepare_same (x : Nod) (m : S28) (A : Option Addr) (c : Nat) (w0 w : World) (base g : Nat) (ok : Nat → Prop) (hn0 : 1 ≤ x.n) (hn1 : x.n ≤ 1000) (hv : 0 ≤ m.f3) (hp : m.f3 % x.n = m.f1) (ht : x.told.length ≤ 1000) (hc : m.f7.length ≤ c) (hl : m.f7.length ≤ 1000) (hl0 : x.log.length ≤ 1000) (hM : ∀ W, Below base w0 W → Kd.C Kd.string W A m.f7.length m.f7) (hw : x.works = true) (hv2 : ¬ m.f3 > x.view) (hll : ¬ m.f7.length > x.log.length) (h : Did w0 w base g ok x) :
    Calls Try.prog 23 #[.pointer (some ⟨g, 0, none⟩), .agg #[.int .i64 m.f0, .int .i64 m.f1, .int .i64 m.f2, .int .i64 m.f3, .int .i64 m.f4, .int .i64 m.f5, .int .i64 m.f6, .slice A m.f7.length c]] w fun e w' => e = .returned (.tuple #[]) ∧ Did w0 w' base g ok (let z := (x.takes m).settle m; z.say (z.ackOf m)) := by
  have hu57 := Try.underlying57
  have hu26 := Try.underlying26
  have hu28 := Try.underlying28
  have HN := Aside0.mk h
  have HD := Aside0.mk (h.boxed (.cells #[.int .i64 m.f0, .int .i64 m.f1, .int .i64 m.f2, .int .i64 m.f3, .int .i64 m.f4, .int .i64 m.f5, .int .i64 m.f6, .slice A m.f7.length c] 28))
  have HP := Aside0.mk (primary_of m.f3 x.n hv hn0)
  have HCL := Aside0.mk (show slices_Clone_string_string.f m.f7 = some m.f7 from if_pos (by omega))
  have HCC := Aside0.mk hc
  have HM := Aside0.mk hM
  have HN0 := Aside0.mk hn0
  have HN1 := Aside0.mk hn1
  have HT := Aside0.mk ht
  have HL := Aside0.mk hl
  have HL0 := Aside0.mk hl0
  have hlt := h.1.lt
  obtain ⟨A6, c6, A7, c7, A8, c8, A9, c9, hb, -⟩ := HD.out.blk
  have HB := Aside0.mk hb
  have hc1 : (w.alloc (.cells #[.int .i64 m.f0, .int .i64 m.f1, .int .i64 m.f2, .int .i64 m.f3, .int .i64 m.f4, .int .i64 m.f5, .int .i64 m.f6, .slice A m.f7.length c] 28)).cell? ⟨g, 1, none⟩ = some (.int .i64 x.n) := blk_cell hb 1
  have hc2 : (w.alloc (.cells #[.int .i64 m.f0, .int .i64 m.f1, .int .i64 m.f2, .int .i64 m.f3, .int .i64 m.f4, .int .i64 m.f5, .int .i64 m.f6, .slice A m.f7.length c] 28)).cell? ⟨g, 2, none⟩ = some (.int .i64 x.view) := blk_cell hb 2
  have hc3 : (w.alloc (.cells #[.int .i64 m.f0, .int .i64 m.f1, .int .i64 m.f2, .int .i64 m.f3, .int .i64 m.f4, .int .i64 m.f5, .int .i64 m.f6, .slice A m.f7.length c] 28)).cell? ⟨g, 3, none⟩ = some (.int .i64 x.last) := blk_cell hb 3
  have hc4 : (w.alloc (.cells #[.int .i64 m.f0, .int .i64 m.f1, .int .i64 m.f2, .int .i64 m.f3, .int .i64 m.f4, .int .i64 m.f5, .int .i64 m.f6, .slice A m.f7.length c] 28)).cell? ⟨g, 4, none⟩ = some (.bool x.works) := blk_cell hb 4
  have hc5 : (w.alloc (.cells #[.int .i64 m.f0, .int .i64 m.f1, .int .i64 m.f2, .int .i64 m.f3, .int .i64 m.f4, .int .i64 m.f5, .int .i64 m.f6, .slice A m.f7.length c] 28)).cell? ⟨g, 5, none⟩ = some (.int .i64 x.commit) := blk_cell hb 5
  have hc6 : (w.alloc (.cells #[.int .i64 m.f0, .int .i64 m.f1, .int .i64 m.f2, .int .i64 m.f3, .int .i64 m.f4, .int .i64 m.f5, .int .i64 m.f6, .slice A m.f7.length c] 28)).cell? ⟨g, 6, none⟩ = some (.slice A6 x.log.length c6) := blk_cell hb 6
  have hf2 : (w.alloc (.cells #[.int .i64 m.f0, .int .i64 m.f1, .int .i64 m.f2, .int .i64 m.f3, .int .i64 m.f4, .int .i64 m.f5, .int .i64 m.f6, .slice A m.f7.length c] 28)).frozen? ⟨g, 2, none⟩ = false := blk_frozen hb 2
  have hf3 : (w.alloc (.cells #[.int .i64 m.f0, .int .i64 m.f1, .int .i64 m.f2, .int .i64 m.f3, .int .i64 m.f4, .int .i64 m.f5, .int .i64 m.f6, .slice A m.f7.length c] 28)).frozen? ⟨g, 3, none⟩ = false := blk_frozen hb 3
  have hf4 : (w.alloc (.cells #[.int .i64 m.f0, .int .i64 m.f1, .int .i64 m.f2, .int .i64 m.f3, .int .i64 m.f4, .int .i64 m.f5, .int .i64 m.f6, .slice A m.f7.length c] 28)).frozen? ⟨g, 4, none⟩ = false := blk_frozen hb 4
  have hf5 : (w.alloc (.cells #[.int .i64 m.f0, .int .i64 m.f1, .int .i64 m.f2, .int .i64 m.f3, .int .i64 m.f4, .int .i64 m.f5, .int .i64 m.f6, .slice A m.f7.length c] 28)).frozen? ⟨g, 5, none⟩ = false := blk_frozen hb 5
  have hf6 : (w.alloc (.cells #[.int .i64 m.f0, .int .i64 m.f1, .int .i64 m.f2, .int .i64 m.f3, .int .i64 m.f4, .int .i64 m.f5, .int .i64 m.f6, .slice A m.f7.length c] 28)).frozen? ⟨g, 6, none⟩ = false := blk_frozen hb 6
  have hb1 : (w.alloc (.cells #[.int .i64 m.f0, .int .i64 m.f1, .int .i64 m.f2, .int .i64 m.f3, .int .i64 m.f4, .int .i64 m.f5, .int .i64 m.f6, .slice A m.f7.length c] 28)).cell? ⟨w.heap.size, 1, none⟩ = some (.int .i64 m.f1) := blk_cell (x_alloc_new w _) 1
  have hb3 : (w.alloc (.cells #[.int .i64 m.f0, .int .i64 m.f1, .int .i64 m.f2, .int .i64 m.f3, .int .i64 m.f4, .int .i64 m.f5, .int .i64 m.f6, .slice A m.f7.length c] 28)).cell? ⟨w.heap.size, 3, none⟩ = some (.int .i64 m.f3) := blk_cell (x_alloc_new w _) 3
  have hb5 : (w.alloc (.cells #[.int .i64 m.f0, .int .i64 m.f1, .int .i64 m.f2, .int .i64 m.f3, .int .i64 m.f4, .int .i64 m.f5, .int .i64 m.f6, .slice A m.f7.length c] 28)).cell? ⟨w.heap.size, 5, none⟩ = some (.int .i64 m.f5) := blk_cell (x_alloc_new w _) 5
  have hb7 : (w.alloc (.cells #[.int .i64 m.f0, .int .i64 m.f1, .int .i64 m.f2, .int .i64 m.f3, .int .i64 m.f4, .int .i64 m.f5, .int .i64 m.f6, .slice A m.f7.length c] 28)).cell? ⟨w.heap.size, 7, none⟩ = some (.slice A m.f7.length c) := blk_cell (x_alloc_new w _) 7
  have hne1 : g ≠ w.heap.size := by have : g < w.heap.size := hlt; omega
  have hne2 : w.heap.size ≠ g := hne1.symm
  generalize hpp : m.f3 % x.n = p at *
  have e1 : (p == m.f1) = true := beq_iff_eq.mpr hp
  have e2 : (p != m.f1) = false := bne_eq_false_iff_eq.mpr hp
  have HPP := Aside0.mk hp
  clear hb h hp hv hn0 hpp hc hl hl0 ht hn1 hM hlt
  obtain ⟨y, hy⟩ : ∃ y, y = x.takes m := ⟨_, rfl⟩
  have HE := Aside0.mk (show y = x by rw [hy]; unfold Nod.takes; rw [if_neg (by simp [hw]; omega), if_neg hll])
  have HTY := Aside0.mk (show y.told.length ≤ 100000 by rw [HE.out]; have := HT.out; show x.told.length ≤ _; omega)
  have HZ := Aside0.mk (show (let z := (x.takes m).settle m; z.say (z.ackOf m)) = (y.settle m).say ((y.settle m).ackOf m) by rw [hy])
  clear hy
  have g1 : decide (m.f3 > x.view) = false := decide_eq_false hv2
  have g2 : decide (x.view < m.f3) = false := decide_eq_false hv2
  rw [hw] at hc4
  have g3 : decide ((m.f7.length : Int) > (x.log.length : Int)) = false := decide_eq_false (by omega)
  have g4 : decide ((x.log.length : Int) < (m.f7.length : Int)) = false := decide_eq_false (by omega)
  have g5 : (x.log.length < m.f7.length) = False := eq_false hll
  clear hw hv2 hll
  go_enter Try.func23, Try.ntmps23
  go_wp2
  go_region_held3 (fun W => W.cell? ⟨g, 1, none⟩ = some (.int .i64 x.n) ∧ W.cell? ⟨w.heap.size, 3, none⟩ = some (.int .i64 m.f3))
    (first | exact ⟨hc1, hb3⟩ | go_keep)
    (first | (refine x_step_call rfl Try.func31 (by kernel_rfl) rfl #[.int .i64 m.f3, .int .i64 x.n] rfl (by simp [Act.eval, Act.put]) ?_; refine (quorum_Primary.calls m.f3 x.n p true _ HP.out).mono ?_; rintro e w' ⟨rfl, ⟨nd, rfl⟩⟩; refine ⟨_, rfl, ?_⟩))
  rename_i hh
  clear hh
  go_wp2
  go_region
  go_wp2
  go_region
  go_wp2
  have h6 := HD.out.drewN (1 + nd + 1 + 1)
  rw [← HE.out] at h6
  generalize hw6 : (w.alloc (.cells #[.int .i64 m.f0, .int .i64 m.f1, .int .i64 m.f2, .int .i64 m.f3, .int .i64 m.f4, .int .i64 m.f5, .int .i64 m.f6, .slice A m.f7.length c] 28)).drewN (1 + nd + 1 + 1) = w6 at *
  have HD6 := Aside0.mk h6
  have HBX6 := Aside0.mk h6.box
  obtain ⟨D6, d6, D7, d7, D8, d8, D9, d9, hbk, -⟩ := h6.blk
  have hr5 : w6.cell? ⟨g, 5, none⟩ = some (.int .i64 y.commit) := blk_cell hbk 5
  have hr6 : w6.cell? ⟨g, 6, none⟩ = some (.slice D6 y.log.length d6) := blk_cell hbk 6
  have hq5 : w6.frozen? ⟨g, 5, none⟩ = false := blk_frozen hbk 5
  have hx5 : w6.cell? ⟨w.heap.size, 5, none⟩ = some (.int .i64 m.f5) := blk_cell HBX6.out 5
  clear h6 hbk hw6
  go_region
  go_wp2
  have HD7 := Aside0.mk (show Did _ ((w6.setCell ⟨g, 5, none⟩ (.int .i64 (min (max y.commit m.f5) (y.log.length : Int)))).drew) base g _ (y.settle m) from (HD6.out.set_commit (min (max y.commit m.f5) (y.log.length : Int))).drew)
  clear hc1 hc2 hc3 hc4 hc5 hc6 hf2 hf3 hf4 hf5 hf6 hb1 hb3 hb5 hb7
  clear hr5 hr6 hq5 hx5
  generalize hW7 : (w6.setCell ⟨g, 5, none⟩ (.int .i64 (min (max y.commit m.f5) (y.log.length : Int)))).drew = W7 at *
  clear hW7
  have HBX7 := Aside0.mk HD7.out.box
  obtain ⟨E6, f6, E7, f7, E8, f8, E9, f9, hbk, -⟩ := HD7.out.blk
  have HBK7 := Aside0.mk hbk
  have hs0 : W7.cell? ⟨g, 0, none⟩ = some (.int .i64 (y.settle m).id) := blk_cell hbk 0
  have hs2 : W7.cell? ⟨g, 2, none⟩ = some (.int .i64 (y.settle m).view) := blk_cell hbk 2
  have hs6 : W7.cell? ⟨g, 6, none⟩ = some (.slice E6 (y.settle m).log.length f6) := blk_cell hbk 6
  have hs9 : W7.cell? ⟨g, 9, none⟩ = some (.slice E9 (y.settle m).told.length f9) := blk_cell hbk 9
  have hx1 : W7.cell? ⟨w.heap.size, 1, none⟩ = some (.int .i64 m.f1) := blk_cell HBX7.out 1
  have HC9 := Aside0.mk (show W7.drew.cell? ⟨g, 9, none⟩ = _ from hs9)
  have HTI := Aside0.mk (show (y.settle m).told.length ≤ 100000 from HTY.out)
  have HBKD := Aside0.mk (show W7.drew.heap[g]? = some _ from hbk)
  have HBXD := Aside0.mk (show W7.drew.heap[w.heap.size]? = some _ from HBX7.out)
  have HNE := Aside0.mk hne1
  clear hbk
  generalize hz : y.settle m = z at *
  rw [ldTold_eq 103]
  go_region_held3 (fun W => W.cell? ⟨g, 0, none⟩ = some (.int .i64 z.id) ∧ W.cell? ⟨g, 2, none⟩ = some (.int .i64 z.view) ∧ W.cell? ⟨g, 6, none⟩ = some (.slice E6 z.log.length f6) ∧ W.cell? ⟨w.heap.size, 1, none⟩ = some (.int .i64 m.f1))
    (first
      | exact ⟨hs0, hs2, hs6, hx1⟩
      | exact ⟨blk_cell HBK8.out 0, blk_cell HBK8.out 2, blk_cell HBK8.out 6, blk_cell HBX8.out 1⟩
      | exact ⟨blk_cell (blk_alloc HBK8.out _) 0, blk_cell (blk_alloc HBK8.out _) 2, blk_cell (blk_alloc HBK8.out _) 6, blk_cell (blk_alloc HBX8.out _) 1⟩
      | exact ⟨blk_cell HBK4.out 0, blk_cell HBK4.out 2, blk_cell HBK4.out 6, blk_cell HBX4.out 1⟩
      | exact ⟨blk_cell HBK5.out 0, blk_cell HBK5.out 2, blk_cell HBK5.out 6, blk_cell HBX5.out 1⟩)
    (first
      | (refine x_step_call rfl Try.func46 (by kernel_rfl) rfl #[.int .i64 z.id, .int .i64 m.f1, .int .i64 z.view, .int .i64 (z.log.length : Int)] rfl (by simp [Act.eval, Act.put]) ?_; refine (ack_calls z.id m.f1 z.view (z.log.length : Int) W7.drew).mono ?_; rintro e w8 ⟨rfl, hb8⟩; have HB8 := Aside0.mk hb8; have HBK8 := Aside0.mk ((hb8.block g (blk_lt HBKD.out)).trans HBKD.out); have HBX8 := Aside0.mk ((hb8.block w.heap.size (blk_lt HBXD.out)).trans HBXD.out); have hs9' : ∀ o, (w8.alloc o).cell? ⟨g, 9, none⟩ = some (.slice E9 z.told.length f9) := fun o => blk_cell (blk_alloc HBK8.out o) 9; have hs9'' : w8.cell? ⟨g, 9, none⟩ = some (.slice E9 z.told.length f9) := blk_cell HBK8.out 9; clear hb8; refine ⟨_, rfl, ?_⟩)
      | (refine say_step (z.ackOf m) E9 f9 none 0 (HD7.out.drew) HB8.out (HC9.out) (Kd.R_nil _ _ _ _ _) HTI.out rfl (.tmp 104) (.tmp 124) rfl rfl rfl ?_; intro v1 w9 hd9 hg9 hv9; obtain ⟨A1, c1, rfl⟩ := hv9; have HD9 := Aside0.mk hd9; have HBK4 := Aside0.mk (hg9.trans HBKD.out); have HBX4 := Aside0.mk ((blk_far_inv (p := ⟨g, 9, none⟩) hd9.box HNE.out.symm)); have HBX5 := Aside0.mk hd9.box; have HBK5 := Aside0.mk (blk_put (cs' := z.cells (.slice E6 z.log.length f6) (.slice E7 z.acks.length f7) (.slice E8 z.votes.length f8) (.slice A1 (z.say (z.ackOf m)).told.length c1)) HBK4.out 9 (.slice A1 (z.say (z.ackOf m)).told.length c1) rfl); have hr9 : w9.cell? ⟨g, 9, none⟩ = some (.slice E9 z.told.length f9) := blk_cell HBK4.out 9; have hf9 : w9.frozen? ⟨g, 9, none⟩ = false := blk_frozen HBK4.out 9; clear hd9 hg9))
  all_goals
    go_wp2
    go_end0
    exact ⟨rfl, by rw [HZ.out]; exact HN.out.unbox HD9.out⟩
end Go.Proofs.Ytfpfpckocemmdaa.P
end
