/- Part 6 of the walk. -/
import Derived.Test.YtfpfpckocemmdaaCAlone05
section
namespace Go.Proofs.Ytfpfpckocemmdaa.P
open Go.RowKit Go.Proofs.YtfpfpckocemmdaaW.PrintWords Go.Proofs.YtfpfpckocemmdaaW.PrintLast Go.Proofs.YtfpfpckocemmdaaW.PrintMore
set_option linter.unusedVariables false
set_option linter.unusedSimpArgs false
set_option maxHeartbeats 8000000 in
set_option maxRecDepth 100000 in
theorem timeout_cast (id n view last : Int) (works : Bool) (commit : Int) (log : List ByteArray) (acks : List Int) (votes : List S66) (told : List S28) (A6 A7 A8 : Option Addr) (c6 c7 c8 : Nat) (w : World) (h6 : Kd.C Kd.string w A6 log.length log) (l6 : log.length ≤ c6) (h7 : Kd.C (Kd.int .i64) w A7 acks.length acks) (l7 : acks.length ≤ c7) (h8 : Kd.C k66 w A8 votes.length votes) (l8 : votes.length ≤ c8)
    (hl : log.length < 4398046511104) (ha : acks.length < 4398046511104) (hvl : votes.length < 4398046511104) (hv : ∀ v, v ∈ votes → v.f3.length < 4398046511104 ∧ (Lit.int .i64 v.f0).wf = true)
    (his : isB ⟨id, n, view, last, works, commit, log, acks, votes, told⟩ = true) (hv9 : ¬ view = 1000000) (hpp : ¬ (((Nod.opened ⟨id, n, view, last, works, commit, log, acks, votes, told⟩).joins (view + 1)).begin_).view % (((Nod.opened ⟨id, n, view, last, works, commit, log, acks, votes, told⟩).joins (view + 1)).begin_).n = (((Nod.opened ⟨id, n, view, last, works, commit, log, acks, votes, told⟩).joins (view + 1)).begin_).id) :
    Calls Try.prog 12 #[.agg #[.int .i64 id, .int .i64 n, .int .i64 view, .int .i64 last, .bool works, .int .i64 commit, .slice A6 log.length c6, .slice A7 acks.length c7, .slice A8 votes.length c8]] w fun e w' => ∃ v6 v7 v8 v9, e = .returned (.tuple #[.agg #[.int .i64 ((((Nod.opened ⟨id, n, view, last, works, commit, log, acks, votes, told⟩).joins (view + 1)).begin_).say ((((Nod.opened ⟨id, n, view, last, works, commit, log, acks, votes, told⟩).joins (view + 1)).begin_).castTo ((((Nod.opened ⟨id, n, view, last, works, commit, log, acks, votes, told⟩).joins (view + 1)).begin_).view % (((Nod.opened ⟨id, n, view, last, works, commit, log, acks, votes, told⟩).joins (view + 1)).begin_).n))).id, .int .i64 ((((Nod.opened ⟨id, n, view, last, works, commit, log, acks, votes, told⟩).joins (view + 1)).begin_).say ((((Nod.opened ⟨id, n, view, last, works, commit, log, acks, votes, told⟩).joins (view + 1)).begin_).castTo ((((Nod.opened ⟨id, n, view, last, works, commit, log, acks, votes, told⟩).joins (view + 1)).begin_).view % (((Nod.opened ⟨id, n, view, last, works, commit, log, acks, votes, told⟩).joins (view + 1)).begin_).n))).n, .int .i64 ((((Nod.opened ⟨id, n, view, last, works, commit, log, acks, votes, told⟩).joins (view + 1)).begin_).say ((((Nod.opened ⟨id, n, view, last, works, commit, log, acks, votes, told⟩).joins (view + 1)).begin_).castTo ((((Nod.opened ⟨id, n, view, last, works, commit, log, acks, votes, told⟩).joins (view + 1)).begin_).view % (((Nod.opened ⟨id, n, view, last, works, commit, log, acks, votes, told⟩).joins (view + 1)).begin_).n))).view, .int .i64 ((((Nod.opened ⟨id, n, view, last, works, commit, log, acks, votes, told⟩).joins (view + 1)).begin_).say ((((Nod.opened ⟨id, n, view, last, works, commit, log, acks, votes, told⟩).joins (view + 1)).begin_).castTo ((((Nod.opened ⟨id, n, view, last, works, commit, log, acks, votes, told⟩).joins (view + 1)).begin_).view % (((Nod.opened ⟨id, n, view, last, works, commit, log, acks, votes, told⟩).joins (view + 1)).begin_).n))).last, .bool ((((Nod.opened ⟨id, n, view, last, works, commit, log, acks, votes, told⟩).joins (view + 1)).begin_).say ((((Nod.opened ⟨id, n, view, last, works, commit, log, acks, votes, told⟩).joins (view + 1)).begin_).castTo ((((Nod.opened ⟨id, n, view, last, works, commit, log, acks, votes, told⟩).joins (view + 1)).begin_).view % (((Nod.opened ⟨id, n, view, last, works, commit, log, acks, votes, told⟩).joins (view + 1)).begin_).n))).works, .int .i64 ((((Nod.opened ⟨id, n, view, last, works, commit, log, acks, votes, told⟩).joins (view + 1)).begin_).say ((((Nod.opened ⟨id, n, view, last, works, commit, log, acks, votes, told⟩).joins (view + 1)).begin_).castTo ((((Nod.opened ⟨id, n, view, last, works, commit, log, acks, votes, told⟩).joins (view + 1)).begin_).view % (((Nod.opened ⟨id, n, view, last, works, commit, log, acks, votes, told⟩).joins (view + 1)).begin_).n))).commit, v6, v7, v8], v9, .int .i64 0]) ∧ Res w' w.heap.size ((((Nod.opened ⟨id, n, view, last, works, commit, log, acks, votes, told⟩).joins (view + 1)).begin_).say ((((Nod.opened ⟨id, n, view, last, works, commit, log, acks, votes, told⟩).joins (view + 1)).begin_).castTo ((((Nod.opened ⟨id, n, view, last, works, commit, log, acks, votes, told⟩).joins (view + 1)).begin_).view % (((Nod.opened ⟨id, n, view, last, works, commit, log, acks, votes, told⟩).joins (view + 1)).begin_).n))) v6 v7 v8 v9 ∧ Below w.heap.size w w' := by
  have hu26 := Try.underlying26
  have hu28 := Try.underlying28
  have hu57 := Try.underlying57
  have hu66 := Try.underlying66
  have HR := Aside0.mk (right_of his)
  have hvs : votes.length ≤ 900 := by have h1 := HR.out.count; have h2 := HR.out.n7; simp only at h1 h2; omega
  have hvt : ∀ v, v ∈ votes → v.f3.length ≤ 1000 := fun v hv => by have h1 := (loggedB_len (votesB_all _ _ _ _ HR.out.votes v hv).2.2.2.2.2).1; omega
  obtain ⟨hw5, sz5, bx5, by5, bl5, be5⟩ := new4 w (.cells #[.int .i64 id, .int .i64 n, .int .i64 view, .int .i64 last, .bool works, .int .i64 commit, .slice A6 log.length c6, .slice A7 acks.length c7, .slice A8 votes.length c8] 26) (.cells #[.int .i64 0, .int .i64 0, .int .i64 0, .int .i64 0, .bool false, .int .i64 0, .slice none 0 0, .slice none 0 0, .slice none 0 0] 26) (.cells #[.slice none 0 0] 30) (.cells #[.int .i64 0] 31)
  have HW5 := Aside0.mk hw5
  have SZ5 := Aside0.mk sz5
  have BX5 := Aside0.mk bx5
  have BY5 := Aside0.mk (five_zero by5)
  have BL5 := Aside0.mk bl5
  have BE5 := Aside0.mk be5
  clear hw5 sz5 bx5 by5 bl5 be5
  have H21 := Aside0.mk (open_is id n view last works commit log acks votes told A6 A7 A8 c6 c7 c8 _ (Kd.C_below h6 HW5.out) l6 (Kd.C_below h7 HW5.out) l7 (Kd.C_below h8 HW5.out) l8 hl ha hvl hv his hvs hvt)
  have e1 : (((Nod.opened ⟨id, n, view, last, works, commit, log, acks, votes, told⟩).view : Int) == 1000000) = false := beq_eq_false_iff_ne.mpr hv9
  have wv0 : (Nod.opened ⟨id, n, view, last, works, commit, log, acks, votes, told⟩).view = view := rfl
  have wv : IntKind.i64.wrap ((Nod.opened ⟨id, n, view, last, works, commit, log, acks, votes, told⟩).view + 1) = view + 1 := by have h1 := HR.out.view1; have h0 := HR.out.view0; simp only at h0 h1; rw [IntKind.wrap_i64, wv0]; omega
  have wv2 : wrap64 ((Nod.opened ⟨id, n, view, last, works, commit, log, acks, votes, told⟩).view + 1) = view + 1 := by have h1 := HR.out.view1; have h0 := HR.out.view0; simp only at h0 h1; rw [wv0]; unfold wrap64; omega
  have HG1 := Aside0.mk (joins_good HR.out.good (view + 1) (by have h0 := HR.out.view0; simp only at h0; omega))
  have HG2 := Aside0.mk (begin_good HG1.out (by have h7 := HR.out.n7; simp only at h7; show 0 + Int.toNat n ≤ 1000; omega))
  have HP2 := Aside0.mk (primary_of (((Nod.opened ⟨id, n, view, last, works, commit, log, acks, votes, told⟩).joins (view + 1)).begin_).view (((Nod.opened ⟨id, n, view, last, works, commit, log, acks, votes, told⟩).joins (view + 1)).begin_).n HG2.out.view HG2.out.n1)
  clear hv9 wv0
  have f1 : (((((Nod.opened ⟨id, n, view, last, works, commit, log, acks, votes, told⟩).joins (view + 1)).begin_).view % (((Nod.opened ⟨id, n, view, last, works, commit, log, acks, votes, told⟩).joins (view + 1)).begin_).n) == (((Nod.opened ⟨id, n, view, last, works, commit, log, acks, votes, told⟩).joins (view + 1)).begin_).id) = false := beq_eq_false_iff_ne.mpr hpp
  have f2 : (((((Nod.opened ⟨id, n, view, last, works, commit, log, acks, votes, told⟩).joins (view + 1)).begin_).view % (((Nod.opened ⟨id, n, view, last, works, commit, log, acks, votes, told⟩).joins (view + 1)).begin_).n) != (((Nod.opened ⟨id, n, view, last, works, commit, log, acks, votes, told⟩).joins (view + 1)).begin_).id) = true := bne_iff_ne.mpr hpp
  clear hpp
  clear h6 l6 h7 l7 h8 l8 hl ha hvl hv his hvs hvt
  go_enter_defers Try.func12, Try.ntmps12
  go_wp2_with (first | (go_at_call 21; refine H21.out.mono ?_; rintro e w6 ⟨g, rfl, hN, hb6⟩; have HN6 := Aside0.mk hN; have HD6 := Aside0.mk (Did.refl hN); have HW6 := Aside0.mk (below_step HW5.out hb6); have SZ6 := Aside0.mk (show w.heap.size + 4 ≤ w6.heap.size by have h1 := hb6.size; have h2 := SZ5.out; omega); have BX6 := Aside0.mk ((hb6.block (w.heap.size) (by rw [SZ5.out]; omega)).trans BX5.out); have BY6 := Aside0.mk ((hb6.block (w.heap.size + 1) (by rw [SZ5.out]; omega)).trans BY5.out); have BL6 := Aside0.mk ((hb6.block (w.heap.size + 1 + 1) (by rw [SZ5.out]; omega)).trans BL5.out); have BE6 := Aside0.mk ((hb6.block (w.heap.size + 1 + 1 + 1) (by rw [SZ5.out]; omega)).trans BE5.out); obtain ⟨D6, d6, D7, d7, D8, d8, D9, d9, hbg, -⟩ := hN.res2; have p0 : w6.cell? ⟨g, 0, none⟩ = some (.int .i64 (Nod.opened ⟨id, n, view, last, works, commit, log, acks, votes, told⟩).id) := blk_cell hbg 0; have p1 : w6.cell? ⟨g, 1, none⟩ = some (.int .i64 (Nod.opened ⟨id, n, view, last, works, commit, log, acks, votes, told⟩).n) := blk_cell hbg 1; have p2 : w6.cell? ⟨g, 2, none⟩ = some (.int .i64 (Nod.opened ⟨id, n, view, last, works, commit, log, acks, votes, told⟩).view) := blk_cell hbg 2; have p3 : w6.cell? ⟨g, 3, none⟩ = some (.int .i64 (Nod.opened ⟨id, n, view, last, works, commit, log, acks, votes, told⟩).last) := blk_cell hbg 3; have p4 : w6.cell? ⟨g, 4, none⟩ = some (.bool (Nod.opened ⟨id, n, view, last, works, commit, log, acks, votes, told⟩).works) := blk_cell hbg 4; have p5 : w6.cell? ⟨g, 5, none⟩ = some (.int .i64 (Nod.opened ⟨id, n, view, last, works, commit, log, acks, votes, told⟩).commit) := blk_cell hbg 5; have p6 : w6.cell? ⟨g, 6, none⟩ = some (.slice D6 ((Nod.opened ⟨id, n, view, last, works, commit, log, acks, votes, told⟩)).log.length d6) := blk_cell hbg 6; have p7 : w6.cell? ⟨g, 7, none⟩ = some (.slice D7 ((Nod.opened ⟨id, n, view, last, works, commit, log, acks, votes, told⟩)).acks.length d7) := blk_cell hbg 7; have p8 : w6.cell? ⟨g, 8, none⟩ = some (.slice D8 ((Nod.opened ⟨id, n, view, last, works, commit, log, acks, votes, told⟩)).votes.length d8) := blk_cell hbg 8; have p9 : w6.cell? ⟨g, 9, none⟩ = some (.slice D9 ((Nod.opened ⟨id, n, view, last, works, commit, log, acks, votes, told⟩)).told.length d9) := blk_cell hbg 9; clear hN hb6 hbg) | (go_at_call 29; refine (joins_did (Nod.opened ⟨id, n, view, last, works, commit, log, acks, votes, told⟩) (view + 1) w6 _ _ g _ HR.out.good HD6.out).mono ?_; rintro e w7 ⟨rfl, h7⟩; have HD7 := Aside0.mk h7; clear h7) | (go_at_call 30; refine (begin_did ((Nod.opened ⟨id, n, view, last, works, commit, log, acks, votes, told⟩).joins (view + 1)) w6 _ _ g _ HG1.out HD7.out).mono ?_; rintro e w8 ⟨rfl, h8⟩; have HD8 := Aside0.mk h8; obtain ⟨D6, d6, D7, d7, D8, d8, D9, d9, hb8, -⟩ := h8.1.res2; have BG8 := Aside0.mk hb8; have s80 : w8.cell? ⟨g, 0, none⟩ = some (.int .i64 (((Nod.opened ⟨id, n, view, last, works, commit, log, acks, votes, told⟩).joins (view + 1)).begin_).id) := blk_cell hb8 0; have s81 : w8.cell? ⟨g, 1, none⟩ = some (.int .i64 (((Nod.opened ⟨id, n, view, last, works, commit, log, acks, votes, told⟩).joins (view + 1)).begin_).n) := blk_cell hb8 1; have s82 : w8.cell? ⟨g, 2, none⟩ = some (.int .i64 (((Nod.opened ⟨id, n, view, last, works, commit, log, acks, votes, told⟩).joins (view + 1)).begin_).view) := blk_cell hb8 2; clear h8 hb8))
  go_region_held3 (fun W => W.cell? ⟨g, 1, none⟩ = some (.int .i64 (((Nod.opened ⟨id, n, view, last, works, commit, log, acks, votes, told⟩).joins (view + 1)).begin_).n) ∧ W.cell? ⟨g, 2, none⟩ = some (.int .i64 (((Nod.opened ⟨id, n, view, last, works, commit, log, acks, votes, told⟩).joins (view + 1)).begin_).view))
    (first | exact ⟨s81, s82⟩ | go_keep)
    (first | (refine x_step_call rfl Try.func31 (by kernel_rfl) rfl #[.int .i64 (((Nod.opened ⟨id, n, view, last, works, commit, log, acks, votes, told⟩).joins (view + 1)).begin_).view, .int .i64 (((Nod.opened ⟨id, n, view, last, works, commit, log, acks, votes, told⟩).joins (view + 1)).begin_).n] rfl (by simp [Act.eval, Act.put]) ?_; refine (quorum_Primary.calls (((Nod.opened ⟨id, n, view, last, works, commit, log, acks, votes, told⟩).joins (view + 1)).begin_).view (((Nod.opened ⟨id, n, view, last, works, commit, log, acks, votes, told⟩).joins (view + 1)).begin_).n _ true _ HP2.out).mono ?_; rintro e w' ⟨rfl, ⟨nd, rfl⟩⟩; refine ⟨_, rfl, ?_⟩))
  rename_i hh
  clear hh
  go_wp2
  have h9 := HD8.out.drewN (1 + nd)
  clear s80 s81 s82
  generalize w8.drewN (1 + nd) = w9 at *
  have HD9 := Aside0.mk h9
  clear h9
  obtain ⟨E6, e6, E7, e7, E8, e8, E9, e9, hb9, -⟩ := HD9.out.1.res2
  have BG9 := Aside0.mk hb9
  have HOWN := Aside0.mk (own_calls (((Nod.opened ⟨id, n, view, last, works, commit, log, acks, votes, told⟩).joins (view + 1)).begin_) w9.drew ((((w.alloc (.cells #[.int .i64 id, .int .i64 n, .int .i64 view, .int .i64 last, .bool works, .int .i64 commit, .slice A6 log.length c6, .slice A7 acks.length c7, .slice A8 votes.length c8] 26)).alloc (.cells #[.int .i64 0, .int .i64 0, .int .i64 0, .int .i64 0, .bool false, .int .i64 0, .slice none 0 0, .slice none 0 0, .slice none 0 0] 26)).alloc (.cells #[.slice none 0 0] 30)).alloc (.cells #[.int .i64 0] 31)).heap.size g _ HD9.out.drew.1)
  have t2 : w9.cell? ⟨g, 2, none⟩ = some (.int .i64 (((Nod.opened ⟨id, n, view, last, works, commit, log, acks, votes, told⟩).joins (view + 1)).begin_).view) := blk_cell hb9 2
  have t9 : w9.cell? ⟨g, 9, none⟩ = some (.slice E9 (((Nod.opened ⟨id, n, view, last, works, commit, log, acks, votes, told⟩).joins (view + 1)).begin_).told.length e9) := blk_cell hb9 9
  have HC9 := Aside0.mk (show w9.drew.cell? ⟨g, 9, none⟩ = _ from t9)
  have HBKD := Aside0.mk (show w9.drew.heap[g]? = some _ from hb9)
  have HTI := Aside0.mk (show (((Nod.opened ⟨id, n, view, last, works, commit, log, acks, votes, told⟩).joins (view + 1)).begin_).told.length ≤ 100000 by have := HG2.out.told; omega)
  have HCA := Aside0.mk (cast_of ((((Nod.opened ⟨id, n, view, last, works, commit, log, acks, votes, told⟩).joins (view + 1)).begin_).view % (((Nod.opened ⟨id, n, view, last, works, commit, log, acks, votes, told⟩).joins (view + 1)).begin_).n) (((Nod.opened ⟨id, n, view, last, works, commit, log, acks, votes, told⟩).joins (view + 1)).begin_).view (((Nod.opened ⟨id, n, view, last, works, commit, log, acks, votes, told⟩).joins (view + 1)).begin_).ownVote (by have := HG2.out.log; show (((Nod.opened ⟨id, n, view, last, works, commit, log, acks, votes, told⟩).joins (view + 1)).begin_).log.length < _; omega))
  clear hb9
  rw [ldTold_eq 51]
  go_region_held3 (fun W => W.cell? ⟨g, 2, none⟩ = some (.int .i64 (((Nod.opened ⟨id, n, view, last, works, commit, log, acks, votes, told⟩).joins (view + 1)).begin_).view))
    (first
      | exact t2
      | exact blk_cell BG11.out 2
      | exact blk_cell BG12.out 2
      | exact blk_cell (blk_alloc BG12.out _) 2
      | exact blk_cell BG13.out 2
      | exact blk_cell BG14.out 2)
    (first
      | (refine x_step_call rfl Try.func33 (by kernel_rfl) rfl #[.pointer (some ⟨g, 0, none⟩)] rfl (by simp [Act.eval, Act.put]) ?_; refine HOWN.out.mono ?_; rintro e w11 ⟨B6, b6, rfl, hcb, hCb, hb11⟩; have HCB := Aside0.mk hcb; have HCC := Aside0.mk (Kd.C_below hCb hb11); have HB11 := Aside0.mk hb11; have BG11 := Aside0.mk ((hb11.block g (blk_lt HBKD.out)).trans HBKD.out); have u9 : w11.cell? ⟨g, 9, none⟩ = some (.slice E9 (((Nod.opened ⟨id, n, view, last, works, commit, log, acks, votes, told⟩).joins (view + 1)).begin_).told.length e9) := blk_cell BG11.out 9; clear hcb hCb hb11; refine ⟨_, rfl, ?_⟩)
      | (refine x_step_call rfl Try.func32 (by kernel_rfl) rfl #[.int .i64 ((((Nod.opened ⟨id, n, view, last, works, commit, log, acks, votes, told⟩).joins (view + 1)).begin_).view % (((Nod.opened ⟨id, n, view, last, works, commit, log, acks, votes, told⟩).joins (view + 1)).begin_).n), .int .i64 (((Nod.opened ⟨id, n, view, last, works, commit, log, acks, votes, told⟩).joins (view + 1)).begin_).view, .agg #[.int .i64 (((Nod.opened ⟨id, n, view, last, works, commit, log, acks, votes, told⟩).joins (view + 1)).begin_).id, .int .i64 (((Nod.opened ⟨id, n, view, last, works, commit, log, acks, votes, told⟩).joins (view + 1)).begin_).last, .int .i64 (((Nod.opened ⟨id, n, view, last, works, commit, log, acks, votes, told⟩).joins (view + 1)).begin_).commit, .slice B6 (((Nod.opened ⟨id, n, view, last, works, commit, log, acks, votes, told⟩).joins (view + 1)).begin_).log.length b6]] rfl (by simp [Act.eval, Act.put]) ?_; refine (msg_Cast.calls ((((Nod.opened ⟨id, n, view, last, works, commit, log, acks, votes, told⟩).joins (view + 1)).begin_).view % (((Nod.opened ⟨id, n, view, last, works, commit, log, acks, votes, told⟩).joins (view + 1)).begin_).n) (((Nod.opened ⟨id, n, view, last, works, commit, log, acks, votes, told⟩).joins (view + 1)).begin_).view (((Nod.opened ⟨id, n, view, last, works, commit, log, acks, votes, told⟩).joins (view + 1)).begin_).id (((Nod.opened ⟨id, n, view, last, works, commit, log, acks, votes, told⟩).joins (view + 1)).begin_).last (((Nod.opened ⟨id, n, view, last, works, commit, log, acks, votes, told⟩).joins (view + 1)).begin_).commit B6 b6 (((Nod.opened ⟨id, n, view, last, works, commit, log, acks, votes, told⟩).joins (view + 1)).begin_).log 3 (((Nod.opened ⟨id, n, view, last, works, commit, log, acks, votes, told⟩).joins (view + 1)).begin_).id ((((Nod.opened ⟨id, n, view, last, works, commit, log, acks, votes, told⟩).joins (view + 1)).begin_).view % (((Nod.opened ⟨id, n, view, last, works, commit, log, acks, votes, told⟩).joins (view + 1)).begin_).n) (((Nod.opened ⟨id, n, view, last, works, commit, log, acks, votes, told⟩).joins (view + 1)).begin_).view (((Nod.opened ⟨id, n, view, last, works, commit, log, acks, votes, told⟩).joins (view + 1)).begin_).last (((Nod.opened ⟨id, n, view, last, works, commit, log, acks, votes, told⟩).joins (view + 1)).begin_).commit 0 (((Nod.opened ⟨id, n, view, last, works, commit, log, acks, votes, told⟩).joins (view + 1)).begin_).log w11 HCC.out HCB.out HCA.out).mono ?_; rintro e w12 ⟨v7, rfl, hR, hb12⟩; obtain ⟨AR, cR, eR⟩ := Kd.R_slice hR; subst eR; have HRR := Aside0.mk (Kd.R_lower hR HB11.out.size); have HB12 := Aside0.mk (below_step HB11.out hb12); have BG12 := Aside0.mk ((hb12.block g (blk_lt BG11.out)).trans BG11.out); have v9 : ∀ o, (w12.alloc o).cell? ⟨g, 9, none⟩ = some (.slice E9 (((Nod.opened ⟨id, n, view, last, works, commit, log, acks, votes, told⟩).joins (view + 1)).begin_).told.length e9) := fun o => blk_cell (blk_alloc BG12.out o) 9; have v9' : w12.cell? ⟨g, 9, none⟩ = some (.slice E9 (((Nod.opened ⟨id, n, view, last, works, commit, log, acks, votes, told⟩).joins (view + 1)).begin_).told.length e9) := blk_cell BG12.out 9; clear hR hb12; refine ⟨_, rfl, ?_⟩)
      | (refine say_step ((((Nod.opened ⟨id, n, view, last, works, commit, log, acks, votes, told⟩).joins (view + 1)).begin_).castTo ((((Nod.opened ⟨id, n, view, last, works, commit, log, acks, votes, told⟩).joins (view + 1)).begin_).view % (((Nod.opened ⟨id, n, view, last, works, commit, log, acks, votes, told⟩).joins (view + 1)).begin_).n)) E9 e9 AR cR (HD9.out.drew) HB12.out HC9.out HRR.out HTI.out rfl (.tmp 52) (.tmp 62) rfl rfl rfl ?_; intro v1 w13 hd13 hg13 hv13; obtain ⟨A1, c1, rfl⟩ := hv13; have HD13 := Aside0.mk hd13; have BG13 := Aside0.mk (hg13.trans HBKD.out); have BG14 := Aside0.mk (blk_put (cs' := (((Nod.opened ⟨id, n, view, last, works, commit, log, acks, votes, told⟩).joins (view + 1)).begin_).cells (.slice E6 (((Nod.opened ⟨id, n, view, last, works, commit, log, acks, votes, told⟩).joins (view + 1)).begin_).log.length e6) (.slice E7 (((Nod.opened ⟨id, n, view, last, works, commit, log, acks, votes, told⟩).joins (view + 1)).begin_).acks.length e7) (.slice E8 (((Nod.opened ⟨id, n, view, last, works, commit, log, acks, votes, told⟩).joins (view + 1)).begin_).votes.length e8) (.slice A1 ((((Nod.opened ⟨id, n, view, last, works, commit, log, acks, votes, told⟩).joins (view + 1)).begin_).say ((((Nod.opened ⟨id, n, view, last, works, commit, log, acks, votes, told⟩).joins (view + 1)).begin_).castTo ((((Nod.opened ⟨id, n, view, last, works, commit, log, acks, votes, told⟩).joins (view + 1)).begin_).view % (((Nod.opened ⟨id, n, view, last, works, commit, log, acks, votes, told⟩).joins (view + 1)).begin_).n))).told.length c1)) BG13.out 9 (.slice A1 ((((Nod.opened ⟨id, n, view, last, works, commit, log, acks, votes, told⟩).joins (view + 1)).begin_).say ((((Nod.opened ⟨id, n, view, last, works, commit, log, acks, votes, told⟩).joins (view + 1)).begin_).castTo ((((Nod.opened ⟨id, n, view, last, works, commit, log, acks, votes, told⟩).joins (view + 1)).begin_).view % (((Nod.opened ⟨id, n, view, last, works, commit, log, acks, votes, told⟩).joins (view + 1)).begin_).n))).told.length c1) rfl); have r9 : w13.cell? ⟨g, 9, none⟩ = some (.slice E9 (((Nod.opened ⟨id, n, view, last, works, commit, log, acks, votes, told⟩).joins (view + 1)).begin_).told.length e9) := blk_cell BG13.out 9; have f9 : w13.frozen? ⟨g, 9, none⟩ = false := blk_frozen BG13.out 9; clear hd13 hg13))
  all_goals
    go_wp2
    have h14 := HD13.out
    generalize hw14 : w13.setCell ⟨g, 9, none⟩ (.slice A1 ((((Nod.opened ⟨id, n, view, last, works, commit, log, acks, votes, told⟩).joins (view + 1)).begin_).say ((((Nod.opened ⟨id, n, view, last, works, commit, log, acks, votes, told⟩).joins (view + 1)).begin_).castTo ((((Nod.opened ⟨id, n, view, last, works, commit, log, acks, votes, told⟩).joins (view + 1)).begin_).view % (((Nod.opened ⟨id, n, view, last, works, commit, log, acks, votes, told⟩).joins (view + 1)).begin_).n))).told.length c1) = w14 at *
    have HN14 := Aside0.mk h14.1
    have HW14 := Aside0.mk (HW6.out.trans (below_weak h14.2.2.1 (by have := SZ5.out; omega)))
    have BY14 := Aside0.mk ((h14.2.2.1.block (w.heap.size + 1) (by rw [SZ5.out]; omega)).trans BY6.out)
    have BL14 := Aside0.mk ((h14.2.2.1.block (w.heap.size + 1 + 1) (by rw [SZ5.out]; omega)).trans BL6.out)
    have BE14 := Aside0.mk ((h14.2.2.1.block (w.heap.size + 1 + 1 + 1) (by rw [SZ5.out]; omega)).trans BE6.out)
    obtain ⟨D6, d6, D7, d7, D8, d8, D9, d9, hbg, hres⟩ := HN14.out.res2
    have HRES := Aside0.mk hres
    have BG14 := Aside0.mk hbg
    have tg0 : w14.cell? ⟨g, 0, none⟩ = some (.int .i64 ((((Nod.opened ⟨id, n, view, last, works, commit, log, acks, votes, told⟩).joins (view + 1)).begin_).say ((((Nod.opened ⟨id, n, view, last, works, commit, log, acks, votes, told⟩).joins (view + 1)).begin_).castTo ((((Nod.opened ⟨id, n, view, last, works, commit, log, acks, votes, told⟩).joins (view + 1)).begin_).view % (((Nod.opened ⟨id, n, view, last, works, commit, log, acks, votes, told⟩).joins (view + 1)).begin_).n))).id) := blk_cell hbg 0
    have tg1 : w14.cell? ⟨g, 1, none⟩ = some (.int .i64 ((((Nod.opened ⟨id, n, view, last, works, commit, log, acks, votes, told⟩).joins (view + 1)).begin_).say ((((Nod.opened ⟨id, n, view, last, works, commit, log, acks, votes, told⟩).joins (view + 1)).begin_).castTo ((((Nod.opened ⟨id, n, view, last, works, commit, log, acks, votes, told⟩).joins (view + 1)).begin_).view % (((Nod.opened ⟨id, n, view, last, works, commit, log, acks, votes, told⟩).joins (view + 1)).begin_).n))).n) := blk_cell hbg 1
    have tg2 : w14.cell? ⟨g, 2, none⟩ = some (.int .i64 ((((Nod.opened ⟨id, n, view, last, works, commit, log, acks, votes, told⟩).joins (view + 1)).begin_).say ((((Nod.opened ⟨id, n, view, last, works, commit, log, acks, votes, told⟩).joins (view + 1)).begin_).castTo ((((Nod.opened ⟨id, n, view, last, works, commit, log, acks, votes, told⟩).joins (view + 1)).begin_).view % (((Nod.opened ⟨id, n, view, last, works, commit, log, acks, votes, told⟩).joins (view + 1)).begin_).n))).view) := blk_cell hbg 2
    have tg3 : w14.cell? ⟨g, 3, none⟩ = some (.int .i64 ((((Nod.opened ⟨id, n, view, last, works, commit, log, acks, votes, told⟩).joins (view + 1)).begin_).say ((((Nod.opened ⟨id, n, view, last, works, commit, log, acks, votes, told⟩).joins (view + 1)).begin_).castTo ((((Nod.opened ⟨id, n, view, last, works, commit, log, acks, votes, told⟩).joins (view + 1)).begin_).view % (((Nod.opened ⟨id, n, view, last, works, commit, log, acks, votes, told⟩).joins (view + 1)).begin_).n))).last) := blk_cell hbg 3
    have tg4 : w14.cell? ⟨g, 4, none⟩ = some (.bool ((((Nod.opened ⟨id, n, view, last, works, commit, log, acks, votes, told⟩).joins (view + 1)).begin_).say ((((Nod.opened ⟨id, n, view, last, works, commit, log, acks, votes, told⟩).joins (view + 1)).begin_).castTo ((((Nod.opened ⟨id, n, view, last, works, commit, log, acks, votes, told⟩).joins (view + 1)).begin_).view % (((Nod.opened ⟨id, n, view, last, works, commit, log, acks, votes, told⟩).joins (view + 1)).begin_).n))).works) := blk_cell hbg 4
    have tg5 : w14.cell? ⟨g, 5, none⟩ = some (.int .i64 ((((Nod.opened ⟨id, n, view, last, works, commit, log, acks, votes, told⟩).joins (view + 1)).begin_).say ((((Nod.opened ⟨id, n, view, last, works, commit, log, acks, votes, told⟩).joins (view + 1)).begin_).castTo ((((Nod.opened ⟨id, n, view, last, works, commit, log, acks, votes, told⟩).joins (view + 1)).begin_).view % (((Nod.opened ⟨id, n, view, last, works, commit, log, acks, votes, told⟩).joins (view + 1)).begin_).n))).commit) := blk_cell hbg 5
    have tg6 : w14.cell? ⟨g, 6, none⟩ = some (.slice D6 (((((Nod.opened ⟨id, n, view, last, works, commit, log, acks, votes, told⟩).joins (view + 1)).begin_).say ((((Nod.opened ⟨id, n, view, last, works, commit, log, acks, votes, told⟩).joins (view + 1)).begin_).castTo ((((Nod.opened ⟨id, n, view, last, works, commit, log, acks, votes, told⟩).joins (view + 1)).begin_).view % (((Nod.opened ⟨id, n, view, last, works, commit, log, acks, votes, told⟩).joins (view + 1)).begin_).n)))).log.length d6) := blk_cell hbg 6
    have tg7 : w14.cell? ⟨g, 7, none⟩ = some (.slice D7 (((((Nod.opened ⟨id, n, view, last, works, commit, log, acks, votes, told⟩).joins (view + 1)).begin_).say ((((Nod.opened ⟨id, n, view, last, works, commit, log, acks, votes, told⟩).joins (view + 1)).begin_).castTo ((((Nod.opened ⟨id, n, view, last, works, commit, log, acks, votes, told⟩).joins (view + 1)).begin_).view % (((Nod.opened ⟨id, n, view, last, works, commit, log, acks, votes, told⟩).joins (view + 1)).begin_).n)))).acks.length d7) := blk_cell hbg 7
    have tg8 : w14.cell? ⟨g, 8, none⟩ = some (.slice D8 (((((Nod.opened ⟨id, n, view, last, works, commit, log, acks, votes, told⟩).joins (view + 1)).begin_).say ((((Nod.opened ⟨id, n, view, last, works, commit, log, acks, votes, told⟩).joins (view + 1)).begin_).castTo ((((Nod.opened ⟨id, n, view, last, works, commit, log, acks, votes, told⟩).joins (view + 1)).begin_).view % (((Nod.opened ⟨id, n, view, last, works, commit, log, acks, votes, told⟩).joins (view + 1)).begin_).n)))).votes.length d8) := blk_cell hbg 8
    have tg9 : w14.cell? ⟨g, 9, none⟩ = some (.slice D9 (((((Nod.opened ⟨id, n, view, last, works, commit, log, acks, votes, told⟩).joins (view + 1)).begin_).say ((((Nod.opened ⟨id, n, view, last, works, commit, log, acks, votes, told⟩).joins (view + 1)).begin_).castTo ((((Nod.opened ⟨id, n, view, last, works, commit, log, acks, votes, told⟩).joins (view + 1)).begin_).view % (((Nod.opened ⟨id, n, view, last, works, commit, log, acks, votes, told⟩).joins (view + 1)).begin_).n)))).told.length d9) := blk_cell hbg 9
    have ty0 : w14.cell? ⟨w.heap.size + 1, 0, none⟩ = some (.int .i64 0) := (blk_cell BY14.out 0).trans rfl
    have tf0 := blk_frozen BY14.out 0
    have ty1 : w14.cell? ⟨w.heap.size + 1, 1, none⟩ = some (.int .i64 0) := (blk_cell BY14.out 1).trans rfl
    have tf1 := blk_frozen BY14.out 1
    have ty2 : w14.cell? ⟨w.heap.size + 1, 2, none⟩ = some (.int .i64 0) := (blk_cell BY14.out 2).trans rfl
    have tf2 := blk_frozen BY14.out 2
    have ty3 : w14.cell? ⟨w.heap.size + 1, 3, none⟩ = some (.int .i64 0) := (blk_cell BY14.out 3).trans rfl
    have tf3 := blk_frozen BY14.out 3
    have ty4 : w14.cell? ⟨w.heap.size + 1, 4, none⟩ = some (.bool false) := (blk_cell BY14.out 4).trans rfl
    have tf4 := blk_frozen BY14.out 4
    have ty5 : w14.cell? ⟨w.heap.size + 1, 5, none⟩ = some (.int .i64 0) := (blk_cell BY14.out 5).trans rfl
    have tf5 := blk_frozen BY14.out 5
    have ty6 : w14.cell? ⟨w.heap.size + 1, 6, none⟩ = some (.slice none 0 0) := (blk_cell BY14.out 6).trans rfl
    have tf6 := blk_frozen BY14.out 6
    have ty7 : w14.cell? ⟨w.heap.size + 1, 7, none⟩ = some (.slice none 0 0) := (blk_cell BY14.out 7).trans rfl
    have tf7 := blk_frozen BY14.out 7
    have ty8 : w14.cell? ⟨w.heap.size + 1, 8, none⟩ = some (.slice none 0 0) := (blk_cell BY14.out 8).trans rfl
    have tf8 := blk_frozen BY14.out 8
    have tl0 : w14.cell? ⟨w.heap.size + 1 + 1, 0, none⟩ = some (.slice none 0 0) := (blk_cell BL14.out 0).trans rfl
    have tl1 := blk_frozen BL14.out 0
    have te0 : w14.cell? ⟨w.heap.size + 1 + 1 + 1, 0, none⟩ = some (.int .i64 0) := (blk_cell BE14.out 0).trans rfl
    have te1 := blk_frozen BE14.out 0
    have HGE := Aside0.mk (show w.heap.size + 4 ≤ g from by have h1 := HN14.out.ge; have h2 := SZ5.out; omega)
    have ney1 : g ≠ w.heap.size + 1 := (by have := HGE.out; omega)
    have ney2 : w.heap.size + 1 ≠ g := (by have := HGE.out; omega)
    have nel1 : g ≠ w.heap.size + 1 + 1 := (by have := HGE.out; omega)
    have nel2 : w.heap.size + 1 + 1 ≠ g := (by have := HGE.out; omega)
    have nee1 : g ≠ w.heap.size + 1 + 1 + 1 := (by have := HGE.out; omega)
    have nee2 : w.heap.size + 1 + 1 + 1 ≠ g := (by have := HGE.out; omega)
    have nyl : w.heap.size + 1 ≠ w.heap.size + 1 + 1 := (by omega)
    have nye : w.heap.size + 1 ≠ w.heap.size + 1 + 1 + 1 := (by omega)
    have nle : w.heap.size + 1 + 1 ≠ w.heap.size + 1 + 1 + 1 := (by omega)
    have nyl' := nyl.symm
    have nye' := nye.symm
    have nle' := nle.symm
    clear hbg hres
    clear h14
    generalize he : w.heap.size + 1 + 1 + 1 = ge at *
    have HG_e := Aside0.mk he
    clear he
    generalize hl : w.heap.size + 1 + 1 = gl at *
    have HG_l := Aside0.mk hl
    clear hl
    generalize hy : w.heap.size + 1 = gy at *
    have HG_y := Aside0.mk hy
    clear hy
    go_region
    go_wp2
    have HST := stores_ret (w7 := w14) BY14.out BL14.out BE14.out nyl nye nle (.int .i64 (((((Nod.opened ⟨id, n, view, last, works, commit, log, acks, votes, told⟩).joins (view + 1)).begin_).say ((((Nod.opened ⟨id, n, view, last, works, commit, log, acks, votes, told⟩).joins (view + 1)).begin_).castTo ((((Nod.opened ⟨id, n, view, last, works, commit, log, acks, votes, told⟩).joins (view + 1)).begin_).view % (((Nod.opened ⟨id, n, view, last, works, commit, log, acks, votes, told⟩).joins (view + 1)).begin_).n)))).id) (.int .i64 (((((Nod.opened ⟨id, n, view, last, works, commit, log, acks, votes, told⟩).joins (view + 1)).begin_).say ((((Nod.opened ⟨id, n, view, last, works, commit, log, acks, votes, told⟩).joins (view + 1)).begin_).castTo ((((Nod.opened ⟨id, n, view, last, works, commit, log, acks, votes, told⟩).joins (view + 1)).begin_).view % (((Nod.opened ⟨id, n, view, last, works, commit, log, acks, votes, told⟩).joins (view + 1)).begin_).n)))).n) (.int .i64 (((((Nod.opened ⟨id, n, view, last, works, commit, log, acks, votes, told⟩).joins (view + 1)).begin_).say ((((Nod.opened ⟨id, n, view, last, works, commit, log, acks, votes, told⟩).joins (view + 1)).begin_).castTo ((((Nod.opened ⟨id, n, view, last, works, commit, log, acks, votes, told⟩).joins (view + 1)).begin_).view % (((Nod.opened ⟨id, n, view, last, works, commit, log, acks, votes, told⟩).joins (view + 1)).begin_).n)))).view) (.int .i64 (((((Nod.opened ⟨id, n, view, last, works, commit, log, acks, votes, told⟩).joins (view + 1)).begin_).say ((((Nod.opened ⟨id, n, view, last, works, commit, log, acks, votes, told⟩).joins (view + 1)).begin_).castTo ((((Nod.opened ⟨id, n, view, last, works, commit, log, acks, votes, told⟩).joins (view + 1)).begin_).view % (((Nod.opened ⟨id, n, view, last, works, commit, log, acks, votes, told⟩).joins (view + 1)).begin_).n)))).last) (.bool (((((Nod.opened ⟨id, n, view, last, works, commit, log, acks, votes, told⟩).joins (view + 1)).begin_).say ((((Nod.opened ⟨id, n, view, last, works, commit, log, acks, votes, told⟩).joins (view + 1)).begin_).castTo ((((Nod.opened ⟨id, n, view, last, works, commit, log, acks, votes, told⟩).joins (view + 1)).begin_).view % (((Nod.opened ⟨id, n, view, last, works, commit, log, acks, votes, told⟩).joins (view + 1)).begin_).n)))).works) (.int .i64 (((((Nod.opened ⟨id, n, view, last, works, commit, log, acks, votes, told⟩).joins (view + 1)).begin_).say ((((Nod.opened ⟨id, n, view, last, works, commit, log, acks, votes, told⟩).joins (view + 1)).begin_).castTo ((((Nod.opened ⟨id, n, view, last, works, commit, log, acks, votes, told⟩).joins (view + 1)).begin_).view % (((Nod.opened ⟨id, n, view, last, works, commit, log, acks, votes, told⟩).joins (view + 1)).begin_).n)))).commit) (.slice D6 (((((Nod.opened ⟨id, n, view, last, works, commit, log, acks, votes, told⟩).joins (view + 1)).begin_).say ((((Nod.opened ⟨id, n, view, last, works, commit, log, acks, votes, told⟩).joins (view + 1)).begin_).castTo ((((Nod.opened ⟨id, n, view, last, works, commit, log, acks, votes, told⟩).joins (view + 1)).begin_).view % (((Nod.opened ⟨id, n, view, last, works, commit, log, acks, votes, told⟩).joins (view + 1)).begin_).n)))).log.length d6) (.slice D7 (((((Nod.opened ⟨id, n, view, last, works, commit, log, acks, votes, told⟩).joins (view + 1)).begin_).say ((((Nod.opened ⟨id, n, view, last, works, commit, log, acks, votes, told⟩).joins (view + 1)).begin_).castTo ((((Nod.opened ⟨id, n, view, last, works, commit, log, acks, votes, told⟩).joins (view + 1)).begin_).view % (((Nod.opened ⟨id, n, view, last, works, commit, log, acks, votes, told⟩).joins (view + 1)).begin_).n)))).acks.length d7) (.slice D8 (((((Nod.opened ⟨id, n, view, last, works, commit, log, acks, votes, told⟩).joins (view + 1)).begin_).say ((((Nod.opened ⟨id, n, view, last, works, commit, log, acks, votes, told⟩).joins (view + 1)).begin_).castTo ((((Nod.opened ⟨id, n, view, last, works, commit, log, acks, votes, told⟩).joins (view + 1)).begin_).view % (((Nod.opened ⟨id, n, view, last, works, commit, log, acks, votes, told⟩).joins (view + 1)).begin_).n)))).votes.length d8) (.slice D9 (((((Nod.opened ⟨id, n, view, last, works, commit, log, acks, votes, told⟩).joins (view + 1)).begin_).say ((((Nod.opened ⟨id, n, view, last, works, commit, log, acks, votes, told⟩).joins (view + 1)).begin_).castTo ((((Nod.opened ⟨id, n, view, last, works, commit, log, acks, votes, told⟩).joins (view + 1)).begin_).view % (((Nod.opened ⟨id, n, view, last, works, commit, log, acks, votes, told⟩).joins (view + 1)).begin_).n)))).told.length d9) (.int .i64 0)
    refine leaves_cons (f := 20) (args := #[.pointer (some ⟨gy, 0, none⟩), .pointer (some ⟨gl, 0, none⟩), .pointer (some ⟨ge, 0, none⟩)]) (by simp) (by kernel_rfl) ?_
    refine (caught_idle ⟨gy, 0, none⟩ ⟨gl, 0, none⟩ ⟨ge, 0, none⟩ _).mono ?_
    rintro e u' w9 ⟨rfl, rfl, rfl⟩
    have E1 := HG_e.out
    have E2 := HG_l.out
    have E3 := HG_y.out
    have E4 := SZ5.out
    refine ⟨_, results_8 rfl _ _ gy gl ge 26 _ (0, 0) _ _ rfl rfl rfl HST.1 rfl HST.2.1 HST.2.2.1, _, _, _, _, rfl, (HRES.out _ (fun k hk hl hg => HST.2.2.2.1 k (by omega) (by omega) (by omega))).lower (by omega), HW14.out.trans (HST.2.2.2.2 _ (by omega) (by omega) (by omega))⟩
end Go.Proofs.Ytfpfpckocemmdaa.P
end
section
namespace Go.Proofs.Ytfpfpckocemmdaa.P
open Go.RowKit Go.Proofs.YtfpfpckocemmdaaW.PrintWords Go.Proofs.YtfpfpckocemmdaaW.PrintLast Go.Proofs.YtfpfpckocemmdaaW.PrintMore
set_option linter.unusedVariables false
set_option linter.unusedSimpArgs false
set_option maxHeartbeats 8000000 in
set_option maxRecDepth 100000 in
theorem ask_not (id n view last : Int) (works : Bool) (commit : Int) (log : List ByteArray) (acks : List Int) (votes : List S66) (told : List S28) (A6 A7 A8 : Option Addr) (c6 c7 c8 : Nat) (w : World) (h6 : Kd.C Kd.string w A6 log.length log) (l6 : log.length ≤ c6) (h7 : Kd.C (Kd.int .i64) w A7 acks.length acks) (l7 : acks.length ≤ c7) (h8 : Kd.C k66 w A8 votes.length votes) (l8 : votes.length ≤ c8)
    (hl : log.length < 4398046511104) (ha : acks.length < 4398046511104) (hvl : votes.length < 4398046511104) (hv : ∀ v, v ∈ votes → v.f3.length < 4398046511104 ∧ (Lit.int .i64 v.f0).wf = true) (s : ByteArray) (his : isB ⟨id, n, view, last, works, commit, log, acks, votes, told⟩ = false) :
    Calls Try.prog 13 #[.agg #[.int .i64 id, .int .i64 n, .int .i64 view, .int .i64 last, .bool works, .int .i64 commit, .slice A6 log.length c6, .slice A7 acks.length c7, .slice A8 votes.length c8], .string s] w fun e w' => ∃ v6 v7 v8 v9, e = .returned (.tuple #[.agg #[.int .i64 zeroNod.id, .int .i64 zeroNod.n, .int .i64 zeroNod.view, .int .i64 zeroNod.last, .bool zeroNod.works, .int .i64 zeroNod.commit, v6, v7, v8], v9, .int .i64 1]) ∧ Res w' w.heap.size zeroNod v6 v7 v8 v9 ∧ Below w.heap.size w w' := by
  have hu26 := Try.underlying26
  have hu28 := Try.underlying28
  have HO := Aside0.mk (open_not id n view last works commit log acks votes told A6 A7 A8 c6 c7 c8 ((((w.alloc (.cells #[.int .i64 id, .int .i64 n, .int .i64 view, .int .i64 last, .bool works, .int .i64 commit, .slice A6 log.length c6, .slice A7 acks.length c7, .slice A8 votes.length c8] 26)).alloc (.cells #[.int .i64 0, .int .i64 0, .int .i64 0, .int .i64 0, .bool false, .int .i64 0, .slice none 0 0, .slice none 0 0, .slice none 0 0] 26)).alloc (.cells #[.slice none 0 0] 30)).alloc (.cells #[.int .i64 0] 31)) (Kd.C_alloc (Kd.C_alloc (Kd.C_alloc (Kd.C_alloc h6 _) _) _) _) l6 (Kd.C_alloc (Kd.C_alloc (Kd.C_alloc (Kd.C_alloc h7 _) _) _) _) l7 (Kd.C_alloc (Kd.C_alloc (Kd.C_alloc (Kd.C_alloc h8 _) _) _) _) l8 hl ha hvl hv his)
  obtain ⟨hw5, sz5, -, by5, bl5, be5⟩ := new4 w (.cells #[.int .i64 id, .int .i64 n, .int .i64 view, .int .i64 last, .bool works, .int .i64 commit, .slice A6 log.length c6, .slice A7 acks.length c7, .slice A8 votes.length c8] 26) (.cells #[.int .i64 0, .int .i64 0, .int .i64 0, .int .i64 0, .bool false, .int .i64 0, .slice none 0 0, .slice none 0 0, .slice none 0 0] 26) (.cells #[.slice none 0 0] 30) (.cells #[.int .i64 0] 31)
  have HW5 := Aside0.mk hw5
  have SZ5 := Aside0.mk sz5
  have BY5 := Aside0.mk (five_zero by5)
  have BL5 := Aside0.mk bl5
  have BE5 := Aside0.mk be5
  clear hw5 sz5 by5 bl5 be5
  clear h6 l6 h7 l7 h8 l8 hl ha hvl hv his
  go_enter_defers Try.func13, Try.ntmps13
  go_wp2_with (first | (go_at_call 21; refine HO.out.mono ?_; rintro e w6 ⟨rfl, hb6⟩; have HW6 := Aside0.mk (below_step HW5.out hb6); have BY6 := Aside0.mk ((hb6.block _ (by rw [SZ5.out]; omega)).trans BY5.out); have BE6 := Aside0.mk ((hb6.block _ (by rw [SZ5.out]; omega)).trans BE5.out); have BL6 := Aside0.mk ((hb6.block _ (by rw [SZ5.out]; omega)).trans BL5.out); clear hb6))
  refine leaves_cons (f := 20) (args := #[.pointer (some ⟨w.heap.size + 1, 0, none⟩), .pointer (some ⟨w.heap.size + 1 + 1, 0, none⟩), .pointer (some ⟨w.heap.size + 1 + 1 + 1, 0, none⟩)]) (by simp) (by kernel_rfl) ?_
  refine (caught_panicking (w.heap.size + 1) (w.heap.size + 1 + 1) (w.heap.size + 1 + 1 + 1) 1 [] w6 BY6.out BL6.out BE6.out (by omega) (by omega) (by omega)).mono ?_
  rintro e u' w9 ⟨rfl, rfl, ky, kl, ke, kb⟩
  refine ⟨_, results_8 rfl _ _ (w.heap.size + 1) (w.heap.size + 1 + 1) (w.heap.size + 1 + 1 + 1) 26 zeroNode (0, 0) (.slice none 0 0) 1 rfl rfl rfl ky rfl ((blk_cell kl 0).trans rfl) ((blk_cell ke 0).trans rfl), .slice none 0 0, .slice none 0 0, .slice none 0 0, .slice none 0 0, rfl, res_zero _ _, ?_⟩
  exact HW6.out.trans (kb w.heap.size (by omega) (by omega) (by omega))
set_option maxHeartbeats 8000000 in
set_option maxRecDepth 100000 in
theorem timeout_not (id n view last : Int) (works : Bool) (commit : Int) (log : List ByteArray) (acks : List Int) (votes : List S66) (told : List S28) (A6 A7 A8 : Option Addr) (c6 c7 c8 : Nat) (w : World) (h6 : Kd.C Kd.string w A6 log.length log) (l6 : log.length ≤ c6) (h7 : Kd.C (Kd.int .i64) w A7 acks.length acks) (l7 : acks.length ≤ c7) (h8 : Kd.C k66 w A8 votes.length votes) (l8 : votes.length ≤ c8)
    (hl : log.length < 4398046511104) (ha : acks.length < 4398046511104) (hvl : votes.length < 4398046511104) (hv : ∀ v, v ∈ votes → v.f3.length < 4398046511104 ∧ (Lit.int .i64 v.f0).wf = true) (his : isB ⟨id, n, view, last, works, commit, log, acks, votes, told⟩ = false) :
    Calls Try.prog 12 #[.agg #[.int .i64 id, .int .i64 n, .int .i64 view, .int .i64 last, .bool works, .int .i64 commit, .slice A6 log.length c6, .slice A7 acks.length c7, .slice A8 votes.length c8]] w fun e w' => ∃ v6 v7 v8 v9, e = .returned (.tuple #[.agg #[.int .i64 zeroNod.id, .int .i64 zeroNod.n, .int .i64 zeroNod.view, .int .i64 zeroNod.last, .bool zeroNod.works, .int .i64 zeroNod.commit, v6, v7, v8], v9, .int .i64 1]) ∧ Res w' w.heap.size zeroNod v6 v7 v8 v9 ∧ Below w.heap.size w w' := by
  have hu26 := Try.underlying26
  have hu28 := Try.underlying28
  have HO := Aside0.mk (open_not id n view last works commit log acks votes told A6 A7 A8 c6 c7 c8 ((((w.alloc (.cells #[.int .i64 id, .int .i64 n, .int .i64 view, .int .i64 last, .bool works, .int .i64 commit, .slice A6 log.length c6, .slice A7 acks.length c7, .slice A8 votes.length c8] 26)).alloc (.cells #[.int .i64 0, .int .i64 0, .int .i64 0, .int .i64 0, .bool false, .int .i64 0, .slice none 0 0, .slice none 0 0, .slice none 0 0] 26)).alloc (.cells #[.slice none 0 0] 30)).alloc (.cells #[.int .i64 0] 31)) (Kd.C_alloc (Kd.C_alloc (Kd.C_alloc (Kd.C_alloc h6 _) _) _) _) l6 (Kd.C_alloc (Kd.C_alloc (Kd.C_alloc (Kd.C_alloc h7 _) _) _) _) l7 (Kd.C_alloc (Kd.C_alloc (Kd.C_alloc (Kd.C_alloc h8 _) _) _) _) l8 hl ha hvl hv his)
  obtain ⟨hw5, sz5, -, by5, bl5, be5⟩ := new4 w (.cells #[.int .i64 id, .int .i64 n, .int .i64 view, .int .i64 last, .bool works, .int .i64 commit, .slice A6 log.length c6, .slice A7 acks.length c7, .slice A8 votes.length c8] 26) (.cells #[.int .i64 0, .int .i64 0, .int .i64 0, .int .i64 0, .bool false, .int .i64 0, .slice none 0 0, .slice none 0 0, .slice none 0 0] 26) (.cells #[.slice none 0 0] 30) (.cells #[.int .i64 0] 31)
  have HW5 := Aside0.mk hw5
  have SZ5 := Aside0.mk sz5
  have BY5 := Aside0.mk (five_zero by5)
  have BL5 := Aside0.mk bl5
  have BE5 := Aside0.mk be5
  clear hw5 sz5 by5 bl5 be5
  clear h6 l6 h7 l7 h8 l8 hl ha hvl hv his
  go_enter_defers Try.func12, Try.ntmps12
  go_wp2_with (first | (go_at_call 21; refine HO.out.mono ?_; rintro e w6 ⟨rfl, hb6⟩; have HW6 := Aside0.mk (below_step HW5.out hb6); have BY6 := Aside0.mk ((hb6.block _ (by rw [SZ5.out]; omega)).trans BY5.out); have BE6 := Aside0.mk ((hb6.block _ (by rw [SZ5.out]; omega)).trans BE5.out); have BL6 := Aside0.mk ((hb6.block _ (by rw [SZ5.out]; omega)).trans BL5.out); clear hb6))
  refine leaves_cons (f := 20) (args := #[.pointer (some ⟨w.heap.size + 1, 0, none⟩), .pointer (some ⟨w.heap.size + 1 + 1, 0, none⟩), .pointer (some ⟨w.heap.size + 1 + 1 + 1, 0, none⟩)]) (by simp) (by kernel_rfl) ?_
  refine (caught_panicking (w.heap.size + 1) (w.heap.size + 1 + 1) (w.heap.size + 1 + 1 + 1) 1 [] w6 BY6.out BL6.out BE6.out (by omega) (by omega) (by omega)).mono ?_
  rintro e u' w9 ⟨rfl, rfl, ky, kl, ke, kb⟩
  refine ⟨_, results_8 rfl _ _ (w.heap.size + 1) (w.heap.size + 1 + 1) (w.heap.size + 1 + 1 + 1) 26 zeroNode (0, 0) (.slice none 0 0) 1 rfl rfl rfl ky rfl ((blk_cell kl 0).trans rfl) ((blk_cell ke 0).trans rfl), .slice none 0 0, .slice none 0 0, .slice none 0 0, .slice none 0 0, rfl, res_zero _ _, ?_⟩
  exact HW6.out.trans (kb w.heap.size (by omega) (by omega) (by omega))
end Go.Proofs.Ytfpfpckocemmdaa.P
end
section
namespace Go.Proofs.Ytfpfpckocemmdaa.P
open Go.RowKit Go.Proofs.YtfpfpckocemmdaaW.PrintWords Go.Proofs.YtfpfpckocemmdaaW.PrintLast Go.Proofs.YtfpfpckocemmdaaW.PrintMore
set_option linter.unusedVariables false
set_option linter.unusedSimpArgs false
structure Arg (w : World) (x : Nod) (A6 A7 A8 : Option Addr) (c6 c7 c8 : Nat) : Prop where
  h6 : Kd.C Kd.string w A6 x.log.length x.log
  l6 : x.log.length ≤ c6
  h7 : Kd.C (Kd.int .i64) w A7 x.acks.length x.acks
  l7 : x.acks.length ≤ c7
  h8 : Kd.C k66 w A8 x.votes.length x.votes
  l8 : x.votes.length ≤ c8
  hl : x.log.length < 4398046511104
  ha : x.acks.length < 4398046511104
  hvl : x.votes.length < 4398046511104
  hv : ∀ v, v ∈ x.votes → v.f3.length < 4398046511104 ∧ (Lit.int .i64 v.f0).wf = true
def Back (w : World) (r : Nod × Int) (e : Ending) (w' : World) : Prop := ∃ v6 v7 v8 v9, e = .returned (.tuple #[.agg #[.int .i64 r.1.id, .int .i64 r.1.n, .int .i64 r.1.view, .int .i64 r.1.last, .bool r.1.works, .int .i64 r.1.commit, v6, v7, v8], v9, .int .i64 r.2]) ∧ Res w' w.heap.size r.1 v6 v7 v8 v9 ∧ Below w.heap.size w w'
def okMsg (x : Nod) (m : S28) : Bool := msgB m && decide (m.f2 = x.id) && !decide (m.f1 = x.id) && decide (m.f1 < x.n)
def stepOf (x : Nod) (m : S28) : Nod := if m.f3 ≥ x.view then (if m.f0 = 1 then x.opened.prepare m else if m.f0 = 2 then x.opened.ack m else x.opened.vote m) else x.opened
def handleOf (x : Nod) (m : S28) : Nod × Int := if isB x = true ∧ okMsg x m = true then (stepOf x m, 0) else (zeroNod, 1)
def askOf (x : Nod) (s : ByteArray) : Nod × Int := if isB x = true then (if x.opened.leads = true then (if (x.log.length : Int) = 60 ∨ (s.size : Int) > 300 then (zeroNod, 2) else ((x.opened.logs s).counts.tell, 0)) else (zeroNod, 220)) else (zeroNod, 1)
def lateOf (x : Nod) : Nod := if (x.opened.joins (x.view + 1)).begin_.view % (x.opened.joins (x.view + 1)).begin_.n = (x.opened.joins (x.view + 1)).begin_.id then (x.opened.joins (x.view + 1)).begin_ else (x.opened.joins (x.view + 1)).begin_.say ((x.opened.joins (x.view + 1)).begin_.castTo ((x.opened.joins (x.view + 1)).begin_.view % (x.opened.joins (x.view + 1)).begin_.n))
def timeoutOf (x : Nod) : Nod × Int := if isB x = true then (if x.view = 1000000 then (zeroNod, 2) else (lateOf x, 0)) else (zeroNod, 1)
theorem msg_kind {m : S28} (h : msgB m = true) : m.f0 = 1 ∨ m.f0 = 2 ∨ m.f0 = 3 := by
  unfold msgB at h
  split at h
  · split at h
    · exact .inl ‹_›
    · split at h
      · exact .inr (.inl ‹_›)
      · split at h
        · exact .inr (.inr ‹_›)
        · cases h
  · cases h
theorem handle_calls (x : Nod) (m : S28) (A6 A7 A8 A : Option Addr) (c6 c7 c8 c : Nat) (w : World) (h : Arg w x A6 A7 A8 c6 c7 c8) (hm : Kd.C Kd.string w A m.f7.length m.f7) (lm : m.f7.length ≤ c) :
    Calls Try.prog 8 #[.agg #[.int .i64 x.id, .int .i64 x.n, .int .i64 x.view, .int .i64 x.last, .bool x.works, .int .i64 x.commit, .slice A6 x.log.length c6, .slice A7 x.acks.length c7, .slice A8 x.votes.length c8], .agg #[.int .i64 m.f0, .int .i64 m.f1, .int .i64 m.f2, .int .i64 m.f3, .int .i64 m.f4, .int .i64 m.f5, .int .i64 m.f6, .slice A m.f7.length c]] w (Back w (handleOf x m)) := by
  cases his : isB x with
  | false =>
    have he : handleOf x m = (zeroNod, 1) := by unfold handleOf; rw [his]; rfl
    rw [he]
    exact handle_not x.id x.n x.view x.last x.works x.commit x.log x.acks x.votes x.told A6 A7 A8 c6 c7 c8 w h.h6 h.l6 h.h7 h.l7 h.h8 h.l8 h.hl h.ha h.hvl h.hv m A c his
  | true =>
    cases hb : msgB m with
    | false =>
      have he : handleOf x m = (zeroNod, 1) := by unfold handleOf okMsg; rw [hb]; simp
      rw [he]
      exact handle_bad1 x.id x.n x.view x.last x.works x.commit x.log x.acks x.votes x.told A6 A7 A8 c6 c7 c8 w h.h6 h.l6 h.h7 h.l7 h.h8 h.l8 h.hl h.ha h.hvl h.hv m A c hm lm his hb
    | true =>
      by_cases ht : m.f2 = x.id
      case neg =>
        have he : handleOf x m = (zeroNod, 1) := by unfold handleOf okMsg; rw [decide_eq_false ht]; simp
        rw [he]
        exact handle_bad2 x.id x.n x.view x.last x.works x.commit x.log x.acks x.votes x.told A6 A7 A8 c6 c7 c8 w h.h6 h.l6 h.h7 h.l7 h.h8 h.l8 h.hl h.ha h.hvl h.hv m A c hm lm his hb ht
      by_cases hf : m.f1 = x.id
      case pos =>
        have he : handleOf x m = (zeroNod, 1) := by unfold handleOf okMsg; rw [decide_eq_true hf]; simp
        rw [he]
        exact handle_bad3 x.id x.n x.view x.last x.works x.commit x.log x.acks x.votes x.told A6 A7 A8 c6 c7 c8 w h.h6 h.l6 h.h7 h.l7 h.h8 h.l8 h.hl h.ha h.hvl h.hv m A c hm lm his hb ht hf
      by_cases hn : m.f1 ≥ x.n
      case pos =>
        have he : handleOf x m = (zeroNod, 1) := by unfold handleOf okMsg; rw [decide_eq_false (show ¬ m.f1 < x.n by omega)]; simp
        rw [he]
        exact handle_bad4 x.id x.n x.view x.last x.works x.commit x.log x.acks x.votes x.told A6 A7 A8 c6 c7 c8 w h.h6 h.l6 h.h7 h.l7 h.h8 h.l8 h.hl h.ha h.hvl h.hv m A c hm lm his hb ht hf hn
      have hok : okMsg x m = true := by unfold okMsg; rw [hb, decide_eq_true ht, decide_eq_false hf, decide_eq_true (show m.f1 < x.n by omega)]; rfl
      have he : handleOf x m = (stepOf x m, 0) := by unfold handleOf; rw [if_pos ⟨his, hok⟩]
      rw [he]
      by_cases hv : m.f3 ≥ x.view
      case neg =>
        have hs : stepOf x m = x.opened := by unfold stepOf; rw [if_neg hv]
        rw [hs]
        exact handle_old x.id x.n x.view x.last x.works x.commit x.log x.acks x.votes x.told A6 A7 A8 c6 c7 c8 w h.h6 h.l6 h.h7 h.l7 h.h8 h.l8 h.hl h.ha h.hvl h.hv m A c hm lm his hb ht hf hn hv
      obtain ⟨m0, m1, m2, m3, m4, m5, m6, m7⟩ := m
      rcases msg_kind hb with hk | hk | hk
      · simp only at hk; subst hk
        have hs : stepOf x ⟨1, m1, m2, m3, m4, m5, m6, m7⟩ = x.opened.prepare ⟨1, m1, m2, m3, m4, m5, m6, m7⟩ := by unfold stepOf; rw [if_pos hv]; rfl
        rw [hs]
        exact handle_prepare x.id x.n x.view x.last x.works x.commit x.log x.acks x.votes x.told A6 A7 A8 c6 c7 c8 w h.h6 h.l6 h.h7 h.l7 h.h8 h.l8 h.hl h.ha h.hvl h.hv m1 m2 m3 m4 m5 m6 m7 A c hm lm his hb ht hf hn hv
      · simp only at hk; subst hk
        have hs : stepOf x ⟨2, m1, m2, m3, m4, m5, m6, m7⟩ = x.opened.ack ⟨2, m1, m2, m3, m4, m5, m6, m7⟩ := by unfold stepOf; rw [if_pos hv]; rfl
        rw [hs]
        exact handle_ack x.id x.n x.view x.last x.works x.commit x.log x.acks x.votes x.told A6 A7 A8 c6 c7 c8 w h.h6 h.l6 h.h7 h.l7 h.h8 h.l8 h.hl h.ha h.hvl h.hv m1 m2 m3 m4 m5 m6 m7 A c hm lm his hb ht hf hn hv
      · simp only at hk; subst hk
        have hs : stepOf x ⟨3, m1, m2, m3, m4, m5, m6, m7⟩ = x.opened.vote ⟨3, m1, m2, m3, m4, m5, m6, m7⟩ := by unfold stepOf; rw [if_pos hv]; rfl
        rw [hs]
        exact handle_vote x.id x.n x.view x.last x.works x.commit x.log x.acks x.votes x.told A6 A7 A8 c6 c7 c8 w h.h6 h.l6 h.h7 h.l7 h.h8 h.l8 h.hl h.ha h.hvl h.hv m1 m2 m3 m4 m5 m6 m7 A c hm lm his hb ht hf hn hv
theorem ask_calls (x : Nod) (s : ByteArray) (A6 A7 A8 : Option Addr) (c6 c7 c8 : Nat) (w : World) (h : Arg w x A6 A7 A8 c6 c7 c8) :
    Calls Try.prog 13 #[.agg #[.int .i64 x.id, .int .i64 x.n, .int .i64 x.view, .int .i64 x.last, .bool x.works, .int .i64 x.commit, .slice A6 x.log.length c6, .slice A7 x.acks.length c7, .slice A8 x.votes.length c8], .string s] w (Back w (askOf x s)) := by
  cases his : isB x with
  | false =>
    have he : askOf x s = (zeroNod, 1) := by unfold askOf; rw [his]; rfl
    rw [he]
    exact ask_not x.id x.n x.view x.last x.works x.commit x.log x.acks x.votes x.told A6 A7 A8 c6 c7 c8 w h.h6 h.l6 h.h7 h.l7 h.h8 h.l8 h.hl h.ha h.hvl h.hv s his
  | true =>
    cases hld : x.opened.leads with
    | false =>
      have he : askOf x s = (zeroNod, 220) := by unfold askOf; rw [his, hld]; rfl
      rw [he]
      exact ask_view x.id x.n x.view x.last x.works x.commit x.log x.acks x.votes x.told A6 A7 A8 c6 c7 c8 w h.h6 h.l6 h.h7 h.l7 h.h8 h.l8 h.hl h.ha h.hvl h.hv s his hld
    | true =>
      by_cases hf : (x.log.length : Int) = 60
      · have he : askOf x s = (zeroNod, 2) := by unfold askOf; rw [his, hld, if_pos rfl, if_pos rfl, if_pos (.inl hf)]
        rw [he]
        exact ask_full x.id x.n x.view x.last x.works x.commit x.log x.acks x.votes x.told A6 A7 A8 c6 c7 c8 w h.h6 h.l6 h.h7 h.l7 h.h8 h.l8 h.hl h.ha h.hvl h.hv s his hld hf
      · by_cases hs : (s.size : Int) > 300
        · have he : askOf x s = (zeroNod, 2) := by unfold askOf; rw [his, hld, if_pos rfl, if_pos rfl, if_pos (.inr hs)]
          rw [he]
          exact ask_long x.id x.n x.view x.last x.works x.commit x.log x.acks x.votes x.told A6 A7 A8 c6 c7 c8 w h.h6 h.l6 h.h7 h.l7 h.h8 h.l8 h.hl h.ha h.hvl h.hv s his hld hf hs
        · have he : askOf x s = ((x.opened.logs s).counts.tell, 0) := by unfold askOf; rw [his, hld, if_pos rfl, if_pos rfl, if_neg (by rintro (h | h); exact hf h; exact hs h)]
          rw [he]
          exact ask_does x.id x.n x.view x.last x.works x.commit x.log x.acks x.votes x.told A6 A7 A8 c6 c7 c8 w h.h6 h.l6 h.h7 h.l7 h.h8 h.l8 h.hl h.ha h.hvl h.hv s his hld hf hs
theorem timeout_calls (x : Nod) (A6 A7 A8 : Option Addr) (c6 c7 c8 : Nat) (w : World) (h : Arg w x A6 A7 A8 c6 c7 c8) :
    Calls Try.prog 12 #[.agg #[.int .i64 x.id, .int .i64 x.n, .int .i64 x.view, .int .i64 x.last, .bool x.works, .int .i64 x.commit, .slice A6 x.log.length c6, .slice A7 x.acks.length c7, .slice A8 x.votes.length c8]] w (Back w (timeoutOf x)) := by
  cases his : isB x with
  | false =>
    have he : timeoutOf x = (zeroNod, 1) := by unfold timeoutOf; rw [his]; rfl
    rw [he]
    exact timeout_not x.id x.n x.view x.last x.works x.commit x.log x.acks x.votes x.told A6 A7 A8 c6 c7 c8 w h.h6 h.l6 h.h7 h.l7 h.h8 h.l8 h.hl h.ha h.hvl h.hv his
  | true =>
    by_cases hv : x.view = 1000000
    · have he : timeoutOf x = (zeroNod, 2) := by unfold timeoutOf; rw [his, if_pos rfl, if_pos hv]
      rw [he]
      exact timeout_last x.id x.n x.view x.last x.works x.commit x.log x.acks x.votes x.told A6 A7 A8 c6 c7 c8 w h.h6 h.l6 h.h7 h.l7 h.h8 h.l8 h.hl h.ha h.hvl h.hv his hv
    · have he : timeoutOf x = (lateOf x, 0) := by unfold timeoutOf; rw [his, if_pos rfl, if_neg hv]
      rw [he]
      by_cases hp : (x.opened.joins (x.view + 1)).begin_.view % (x.opened.joins (x.view + 1)).begin_.n = (x.opened.joins (x.view + 1)).begin_.id
      · have hl : lateOf x = _ := if_pos hp
        rw [hl]
        exact timeout_prim x.id x.n x.view x.last x.works x.commit x.log x.acks x.votes x.told A6 A7 A8 c6 c7 c8 w h.h6 h.l6 h.h7 h.l7 h.h8 h.l8 h.hl h.ha h.hvl h.hv his hv hp
      · have hl : lateOf x = _ := if_neg hp
        rw [hl]
        exact timeout_cast x.id x.n x.view x.last x.works x.commit x.log x.acks x.votes x.told A6 A7 A8 c6 c7 c8 w h.h6 h.l6 h.h7 h.l7 h.h8 h.l8 h.hl h.ha h.hvl h.hv his hv hp
theorem Res.arg {w : World} {base : Nat} {x : Nod} {v6 v7 v8 v9 : Value} (h : Res w base x v6 v7 v8 v9) (hl : x.log.length < 4398046511104) (ha : x.acks.length < 4398046511104) (hvl : x.votes.length < 4398046511104) (hv : ∀ v, v ∈ x.votes → v.f3.length < 4398046511104 ∧ (Lit.int .i64 v.f0).wf = true) :
    ∃ A6 c6 A7 c7 A8 c8 A9 c9, v6 = .slice A6 x.log.length c6 ∧ v7 = .slice A7 x.acks.length c7 ∧ v8 = .slice A8 x.votes.length c8 ∧ v9 = .slice A9 x.told.length c9 ∧ Arg w x A6 A7 A8 c6 c7 c8 ∧ x.told.length ≤ c9 ∧ Kd.C k28 w A9 x.told.length x.told := by
  obtain ⟨P6, P7, P8, P9, h6, h7, h8, h9, a6, a7, a8⟩ := h
  obtain ⟨A6, c6, rfl, e6, k6⟩ := Kd.R_reads h6
  obtain ⟨A7, c7, rfl, e7, k7⟩ := Kd.R_reads h7
  obtain ⟨A8, c8, rfl, e8, k8⟩ := Kd.S_reads h8
  obtain ⟨A9, c9, rfl, e9, k9⟩ := Kd.S_reads h9
  exact ⟨A6, c6, A7, c7, A8, c8, A9, c9, rfl, rfl, rfl, rfl, ⟨k6, e6, k7, e7, k8, e8, hl, ha, hvl, hv⟩, e9, k9⟩
end Go.Proofs.Ytfpfpckocemmdaa.P
end
section
namespace Go.Proofs.Ytfpfpckocemmdaa.P
open Go.RowKit Go.Proofs.YtfpfpckocemmdaaW.PrintWords Go.Proofs.YtfpfpckocemmdaaW.PrintLast Go.Proofs.YtfpfpckocemmdaaW.PrintMore
set_option linter.unusedVariables false
set_option linter.unusedSimpArgs false
theorem Res.arg2 {w : World} {base : Nat} {x : Nod} {v6 v7 v8 v9 : Value} (h : Res w base x v6 v7 v8 v9) (hl : x.log.length < 4398046511104) (ha : x.acks.length < 4398046511104) (hvl : x.votes.length < 4398046511104) (hv : ∀ v, v ∈ x.votes → v.f3.length < 4398046511104 ∧ (Lit.int .i64 v.f0).wf = true) :
    ∃ A6 c6 A7 c7 A8 c8 A9 c9, v6 = .slice A6 x.log.length c6 ∧ v7 = .slice A7 x.acks.length c7 ∧ v8 = .slice A8 x.votes.length c8 ∧ v9 = .slice A9 x.told.length c9 ∧ x.told.length ≤ c9 ∧
      ∀ W2 : World, (∀ k, base ≤ k → k < w.heap.size → W2.heap[k]? = w.heap[k]?) → Arg W2 x A6 A7 A8 c6 c7 c8 ∧ Kd.C k28 W2 A9 x.told.length x.told := by
  obtain ⟨P6, P7, P8, P9, h6, h7, h8, h9, a6, a7, a8⟩ := h
  obtain ⟨A6, c6, rfl, e6, k6⟩ := Kd.R_reads h6
  obtain ⟨A7, c7, rfl, e7, k7⟩ := Kd.R_reads h7
  obtain ⟨A8, c8, rfl, e8, k8⟩ := Kd.S_reads h8
  obtain ⟨A9, c9, rfl, e9, k9⟩ := Kd.S_reads h9
  refine ⟨A6, c6, A7, c7, A8, c8, A9, c9, rfl, rfl, rfl, rfl, e9, fun W2 hm => ?_⟩
  have g6 := Kd.R_reads' (Kd.R_step (Kd.R_bound h6) (fun k hk hl => hm k hk.2.1 hl))
  have g7 := Kd.R_reads' (Kd.R_step (Kd.R_bound h7) (fun k hk hl => hm k hk.2.1 hl))
  have g8 := Kd.S_reads' (Kd.S_step (Kd.S_bound h8) (fun k hk hl => hm k hk.2.1 hl))
  have g9 := Kd.S_reads' (Kd.S_step (Kd.S_bound h9) (fun k hk hl => hm k hk.2.1 hl))
  exact ⟨⟨g6.2.2, e6, g7.2.2, e7, g8.2.2, e8, hl, ha, hvl, hv⟩, g9.2.2⟩
theorem put9 {w : World} {g : Nat} {b0 b1 b2 b3 b4 b5 b6 b7 b8 : Value} {t : TypeId} (h : w.heap[g]? = some (.cells #[b0, b1, b2, b3, b4, b5, b6, b7, b8] t (0, 0))) (a0 a1 a2 a3 a4 a5 a6 a7 a8 : Value) :
    (((((((((w.setCell ⟨g, 0, none⟩ a0).setCell ⟨g, 1, none⟩ a1).setCell ⟨g, 2, none⟩ a2).setCell ⟨g, 3, none⟩ a3).setCell ⟨g, 4, none⟩ a4).setCell ⟨g, 5, none⟩ a5).setCell ⟨g, 6, none⟩ a6).setCell ⟨g, 7, none⟩ a7).setCell ⟨g, 8, none⟩ a8).heap[g]? = some (.cells #[a0, a1, a2, a3, a4, a5, a6, a7, a8] t (0, 0)) ∧
    ∀ k, k ≠ g → (((((((((w.setCell ⟨g, 0, none⟩ a0).setCell ⟨g, 1, none⟩ a1).setCell ⟨g, 2, none⟩ a2).setCell ⟨g, 3, none⟩ a3).setCell ⟨g, 4, none⟩ a4).setCell ⟨g, 5, none⟩ a5).setCell ⟨g, 6, none⟩ a6).setCell ⟨g, 7, none⟩ a7).setCell ⟨g, 8, none⟩ a8).heap[k]? = w.heap[k]? := by
  have p0 := blk_put (cs' := #[a0, b1, b2, b3, b4, b5, b6, b7, b8]) h 0 a0 rfl
  have p1 := blk_put (cs' := #[a0, a1, b2, b3, b4, b5, b6, b7, b8]) p0 1 a1 rfl
  have p2 := blk_put (cs' := #[a0, a1, a2, b3, b4, b5, b6, b7, b8]) p1 2 a2 rfl
  have p3 := blk_put (cs' := #[a0, a1, a2, a3, b4, b5, b6, b7, b8]) p2 3 a3 rfl
  have p4 := blk_put (cs' := #[a0, a1, a2, a3, a4, b5, b6, b7, b8]) p3 4 a4 rfl
  have p5 := blk_put (cs' := #[a0, a1, a2, a3, a4, a5, b6, b7, b8]) p4 5 a5 rfl
  have p6 := blk_put (cs' := #[a0, a1, a2, a3, a4, a5, a6, b7, b8]) p5 6 a6 rfl
  have p7 := blk_put (cs' := #[a0, a1, a2, a3, a4, a5, a6, a7, b8]) p6 7 a7 rfl
  have p8 := blk_put (cs' := #[a0, a1, a2, a3, a4, a5, a6, a7, a8]) p7 8 a8 rfl
  refine ⟨p8, fun k hk => ?_⟩
  have q := fun (W : World) (v : Value) (j : Nat) => Below.heap_setCell W ⟨g, j, none⟩ v k hk
  rw [q, q, q, q, q, q, q, q, q]
theorem put9_below {B : Nat} {w0 w : World} {g : Nat} (h : Below B w0 w) (hg : B ≤ g) (a0 a1 a2 a3 a4 a5 a6 a7 a8 : Value) : Below B w0 (((((((((w.setCell ⟨g, 0, none⟩ a0).setCell ⟨g, 1, none⟩ a1).setCell ⟨g, 2, none⟩ a2).setCell ⟨g, 3, none⟩ a3).setCell ⟨g, 4, none⟩ a4).setCell ⟨g, 5, none⟩ a5).setCell ⟨g, 6, none⟩ a6).setCell ⟨g, 7, none⟩ a7).setCell ⟨g, 8, none⟩ a8) := by
  have k0 := below_at (j := 0) (v := a0) h hg
  have k1 := below_at (j := 1) (v := a1) k0 hg
  have k2 := below_at (j := 2) (v := a2) k1 hg
  have k3 := below_at (j := 3) (v := a3) k2 hg
  have k4 := below_at (j := 4) (v := a4) k3 hg
  have k5 := below_at (j := 5) (v := a5) k4 hg
  have k6 := below_at (j := 6) (v := a6) k5 hg
  have k7 := below_at (j := 7) (v := a7) k6 hg
  have k8 := below_at (j := 8) (v := a8) k7 hg
  exact k8
end Go.Proofs.Ytfpfpckocemmdaa.P
end
section
namespace Go.Proofs.Ytfpfpckocemmdaa.P
open Go.RowKit Go.Proofs.YtfpfpckocemmdaaW.PrintWords Go.Proofs.YtfpfpckocemmdaaW.PrintLast Go.Proofs.YtfpfpckocemmdaaW.PrintMore
set_option linter.unusedVariables false
set_option linter.unusedSimpArgs false
def fitB (l : List ByteArray) (a : List Int) (v : List S66) : Bool := decide (l.length < 4398046511104) && decide (a.length < 4398046511104) && decide (v.length < 4398046511104) && v.all (fun u => decide (u.f3.length < 4398046511104) && (Lit.int .i64 u.f0).wf)
def flat3 (r : Nod × Int) : Int × Int × Int × Int × Bool × Int × List ByteArray × List Int × (List (S66)) × List (S28) × Int := (r.1.id, r.1.n, r.1.view, r.1.last, r.1.works, r.1.commit, r.1.log, r.1.acks, r.1.votes, r.1.told, r.2)
theorem arg_of {w : World} {x : Nod} {A6 A7 A8 : Option Addr} {c6 c7 c8 : Nat} (h6 : Kd.C Kd.string w A6 x.log.length x.log) (l6 : x.log.length ≤ c6) (h7 : Kd.C (Kd.int .i64) w A7 x.acks.length x.acks) (l7 : x.acks.length ≤ c7) (h8 : Kd.C k66 w A8 x.votes.length x.votes) (l8 : x.votes.length ≤ c8) (hf : fitB x.log x.acks x.votes = true) : Arg w x A6 A7 A8 c6 c7 c8 := by
  unfold fitB at hf
  simp only [Bool.and_eq_true, decide_eq_true_eq, List.all_eq_true] at hf
  exact ⟨h6, l6, h7, l7, h8, l8, hf.1.1.1, hf.1.1.2, hf.1.2, hf.2⟩
theorem Back.print {w w' : World} {r : Nod × Int} {e : Ending} (h : Back w r e w') : ∃ v6_ v7_ v8_ v9_ : Value, e = .returned (.tuple #[.agg #[.int .i64 r.1.id, .int .i64 r.1.n, .int .i64 r.1.view, .int .i64 r.1.last, .bool r.1.works, .int .i64 r.1.commit, v6_, v7_, v8_], v9_, .int .i64 r.2]) ∧ Kd.R Kd.string 9 w' w.heap.size (fun _ => True) v6_ r.1.log ∧ Kd.R (Kd.int .i64) 3 w' w.heap.size (fun _ => True) v7_ r.1.acks ∧ Kd.S k66 66 w' w.heap.size (fun k_ => some k_ ≠ (v6_ : Value).ownBlock) v8_ r.1.votes ∧ Kd.S k28 28 w' w.heap.size (fun k_ => some k_ ≠ (v6_ : Value).ownBlock) v9_ r.1.told ∧ Below w.heap.size w w' := by
  obtain ⟨v6, v7, v8, v9, rfl, ⟨P6, P7, P8, P9, h6, h7, h8, h9, a6, a7, a8⟩, hb⟩ := h
  exact ⟨v6, v7, v8, v9, rfl, Kd.R_mono h6 (fun _ _ => trivial), Kd.R_mono h7 (fun _ _ => trivial), Kd.S_mono h8 (fun k hk e => (a6 k (h6.1 k e.symm)).2.1 hk), Kd.S_mono h9 (fun k hk e => (a6 k (h6.1 k e.symm)).2.2 hk), hb⟩
end Go.Proofs.Ytfpfpckocemmdaa.P
end
section
namespace Go.Proofs.Ytfpfpckocemmdaa.P
open Go.RowKit Go.Proofs.YtfpfpckocemmdaaW.PrintWords Go.Proofs.YtfpfpckocemmdaaW.PrintLast Go.Proofs.YtfpfpckocemmdaaW.PrintMore
set_option linter.unusedVariables false
set_option linter.unusedSimpArgs false
set_option maxRecDepth 100000
def Stays (W : World) (F : World → Prop) : Prop := ∀ W' : World, (∀ k, k < W.heap.size → W'.heap[k]? = W.heap[k]?) → F W'
def StaysBut (W : World) (g : Nat) (F : World → Prop) : Prop := ∀ W' : World, (∀ k, k ≠ g → k < W.heap.size → W'.heap[k]? = W.heap[k]?) → F W'
theorem Stays.here {W : World} {F : World → Prop} (h : Stays W F) : F W := h W (fun _ _ => rfl)
theorem StaysBut.here {W : World} {g : Nat} {F : World → Prop} (h : StaysBut W g F) : F W := h W (fun _ _ _ => rfl)
theorem Stays.below {W W1 : World} {F : World → Prop} (h : Stays W F) (hb : Below W.heap.size W W1) : Stays W1 F := fun W' hm => h W' (fun k hk => (hm k (Nat.lt_of_lt_of_le hk hb.size)).trans (hb.block k hk))
theorem Stays.alloc {W : World} {F : World → Prop} (h : Stays W F) (o : Obj) : Stays (W.alloc o) F := h.below (below_alloc (Below.refl _ _) o)
theorem Stays.of {W : World} {F : World → Prop} {n : Nat} (h : ∀ W2 : World, (∀ k, n ≤ k → k < W.heap.size → W2.heap[k]? = W.heap[k]?) → F W2) : Stays W F := fun W' hm => h W' (fun k _ hk => hm k hk)
theorem Stays.and {W : World} {F G : World → Prop} (h : Stays W F) (k : Stays W G) : Stays W (fun W' => F W' ∧ G W') := fun W' hm => ⟨h W' hm, k W' hm⟩
theorem Stays.mono {W : World} {F G : World → Prop} (h : Stays W F) (k : ∀ W', F W' → G W') : Stays W G := fun W' hm => k W' (h W' hm)
theorem StaysBut.mono {W : World} {g : Nat} {F G : World → Prop} (h : StaysBut W g F) (k : ∀ W', F W' → G W') : StaysBut W g G := fun W' hm => k W' (h W' hm)
theorem Stays.new (W : World) (o : Obj) : Stays (W.alloc o) (fun W' => W'.heap[W.heap.size]? = some o) := fun W' hm => (hm _ (blk_lt (x_alloc_new W o))).trans (x_alloc_new W o)
theorem Stays.but_new {W W1 : World} {F : World → Prop} {g : Nat} (h : Stays W F) (hg : g = W.heap.size) (hb : Below W.heap.size W W1) : StaysBut W1 g F := fun W' hm => h W' (fun k hk => (hm k (by omega) (Nat.lt_of_lt_of_le hk hb.size)).trans (hb.block k hk))
theorem StaysBut.below {W W1 : World} {F : World → Prop} {g : Nat} (h : StaysBut W g F) (hb : Below W.heap.size W W1) : StaysBut W1 g F := fun W' hm => h W' (fun k hk hl => (hm k hk (Nat.lt_of_lt_of_le hl hb.size)).trans (hb.block k hl))
theorem StaysBut.of {W : World} {F : World → Prop} {n g : Nat} (h : ∀ W2 : World, (∀ k, n ≤ k → k < W.heap.size → W2.heap[k]? = W.heap[k]?) → F W2) (hg : g < n) : StaysBut W g F := fun W' hm => h W' (fun k hk hl => hm k (by omega) hl)
theorem StaysBut.and {W : World} {g : Nat} {F G : World → Prop} (h : StaysBut W g F) (k : StaysBut W g G) : StaysBut W g (fun W' => F W' ∧ G W') := fun W' hm => ⟨h W' hm, k W' hm⟩
theorem StaysBut.put {W W1 : World} {F : World → Prop} {g : Nat} {o : Obj} (h : StaysBut W g F) (hs : W.heap.size ≤ W1.heap.size) (hg : W1.heap[g]? = some o) (hm : ∀ k, k ≠ g → W1.heap[k]? = W.heap[k]?) : Stays W1 (fun W' => W'.heap[g]? = some o ∧ F W') := fun W' h1 => ⟨(h1 g (blk_lt hg)).trans hg, h W' (fun k hk hl => (h1 k (Nat.lt_of_lt_of_le hl hs)).trans (hm k hk))⟩
theorem w_ask1 (A6 A7 A8 : Option Addr) (c6 c7 c8 : Nat) (w : World) (h : Arg w (⟨0, 3, 0, 0, true, 0, [], [0, 0, 0], [], []⟩ : Nod) A6 A7 A8 c6 c7 c8) :
    Calls Try.prog 13 #[.agg #[.int .i64 0, .int .i64 3, .int .i64 0, .int .i64 0, .bool true, .int .i64 0, .slice A6 0 c6, .slice A7 3 c7, .slice A8 0 c8], .string ⟨#[97]⟩] w fun e w' => ∃ D6 d6 D7 d7 D8 d8 D9 d9, e = .returned (.tuple #[.agg #[.int .i64 0, .int .i64 3, .int .i64 0, .int .i64 0, .bool true, .int .i64 0, .slice D6 1 d6, .slice D7 3 d7, .slice D8 0 d8], .slice D9 2 d9, .int .i64 0]) ∧ Arg w' (⟨0, 3, 0, 0, true, 0, [⟨#[97]⟩], [1, 0, 0], [], [⟨1, 0, 1, 0, 0, 0, 0, [⟨#[97]⟩]⟩, ⟨1, 0, 2, 0, 0, 0, 0, [⟨#[97]⟩]⟩]⟩ : Nod) D6 D7 D8 d6 d7 d8 ∧ 2 ≤ d9 ∧ Kd.C k28 w' D9 2 [(⟨1, 0, 1, 0, 0, 0, 0, [⟨#[97]⟩]⟩ : S28), (⟨1, 0, 2, 0, 0, 0, 0, [⟨#[97]⟩]⟩ : S28)] ∧ Below w.heap.size w w' ∧ (∀ W2 : World, (∀ k, w.heap.size ≤ k → k < w'.heap.size → W2.heap[k]? = w'.heap[k]?) → Arg W2 (⟨0, 3, 0, 0, true, 0, [⟨#[97]⟩], [1, 0, 0], [], [⟨1, 0, 1, 0, 0, 0, 0, [⟨#[97]⟩]⟩, ⟨1, 0, 2, 0, 0, 0, 0, [⟨#[97]⟩]⟩]⟩ : Nod) D6 D7 D8 d6 d7 d8 ∧ Kd.C k28 W2 D9 2 [(⟨1, 0, 1, 0, 0, 0, 0, [⟨#[97]⟩]⟩ : S28), (⟨1, 0, 2, 0, 0, 0, 0, [⟨#[97]⟩]⟩ : S28)]) := by
  refine (ask_calls (⟨0, 3, 0, 0, true, 0, [], [0, 0, 0], [], []⟩ : Nod) ⟨#[97]⟩ A6 A7 A8 c6 c7 c8 w h).mono ?_
  rintro e w' ⟨v6, v7, v8, v9, rfl, hres, hb⟩
  rw [show askOf (⟨0, 3, 0, 0, true, 0, [], [0, 0, 0], [], []⟩ : Nod) ⟨#[97]⟩ = ((⟨0, 3, 0, 0, true, 0, [⟨#[97]⟩], [1, 0, 0], [], [⟨1, 0, 1, 0, 0, 0, 0, [⟨#[97]⟩]⟩, ⟨1, 0, 2, 0, 0, 0, 0, [⟨#[97]⟩]⟩]⟩ : Nod), 0) from by kernel_rfl] at hres ⊢
  obtain ⟨D6, d6, D7, d7, D8, d8, D9, d9, rfl, rfl, rfl, rfl, h9, hK⟩ := hres.arg2 (by decide) (by decide) (by decide) (by intro v hv; simp at hv <;> (subst hv; decide))
  exact ⟨D6, d6, D7, d7, D8, d8, D9, d9, rfl, (hK w' (fun _ _ _ => rfl)).1, h9, (hK w' (fun _ _ _ => rfl)).2, hb, hK⟩
theorem w_handle1 (A6 A7 A8 : Option Addr) (c6 c7 c8 : Nat) (w : World) (A : Option Addr) (c : Nat) (h : Arg w (⟨1, 3, 0, 0, true, 0, [], [0, 0, 0], [], []⟩ : Nod) A6 A7 A8 c6 c7 c8) (hm : Kd.C Kd.string w A 1 [⟨#[97]⟩]) (lm : 1 ≤ c) :
    Calls Try.prog 8 #[.agg #[.int .i64 1, .int .i64 3, .int .i64 0, .int .i64 0, .bool true, .int .i64 0, .slice A6 0 c6, .slice A7 3 c7, .slice A8 0 c8], .agg #[.int .i64 1, .int .i64 0, .int .i64 1, .int .i64 0, .int .i64 0, .int .i64 0, .int .i64 0, .slice A 1 c]] w fun e w' => ∃ D6 d6 D7 d7 D8 d8 D9 d9, e = .returned (.tuple #[.agg #[.int .i64 1, .int .i64 3, .int .i64 0, .int .i64 0, .bool true, .int .i64 0, .slice D6 1 d6, .slice D7 3 d7, .slice D8 0 d8], .slice D9 1 d9, .int .i64 0]) ∧ Arg w' (⟨1, 3, 0, 0, true, 0, [⟨#[97]⟩], [0, 0, 0], [], [⟨2, 1, 0, 0, 0, 0, 1, []⟩]⟩ : Nod) D6 D7 D8 d6 d7 d8 ∧ 1 ≤ d9 ∧ Kd.C k28 w' D9 1 [(⟨2, 1, 0, 0, 0, 0, 1, []⟩ : S28)] ∧ Below w.heap.size w w' ∧ (∀ W2 : World, (∀ k, w.heap.size ≤ k → k < w'.heap.size → W2.heap[k]? = w'.heap[k]?) → Arg W2 (⟨1, 3, 0, 0, true, 0, [⟨#[97]⟩], [0, 0, 0], [], [⟨2, 1, 0, 0, 0, 0, 1, []⟩]⟩ : Nod) D6 D7 D8 d6 d7 d8 ∧ Kd.C k28 W2 D9 1 [(⟨2, 1, 0, 0, 0, 0, 1, []⟩ : S28)]) := by
  refine (handle_calls (⟨1, 3, 0, 0, true, 0, [], [0, 0, 0], [], []⟩ : Nod) (⟨1, 0, 1, 0, 0, 0, 0, [⟨#[97]⟩]⟩ : S28) A6 A7 A8 A c6 c7 c8 c w h hm lm).mono ?_
  rintro e w' ⟨v6, v7, v8, v9, rfl, hres, hb⟩
  rw [show handleOf (⟨1, 3, 0, 0, true, 0, [], [0, 0, 0], [], []⟩ : Nod) (⟨1, 0, 1, 0, 0, 0, 0, [⟨#[97]⟩]⟩ : S28) = ((⟨1, 3, 0, 0, true, 0, [⟨#[97]⟩], [0, 0, 0], [], [⟨2, 1, 0, 0, 0, 0, 1, []⟩]⟩ : Nod), 0) from by kernel_rfl] at hres ⊢
  obtain ⟨D6, d6, D7, d7, D8, d8, D9, d9, rfl, rfl, rfl, rfl, h9, hK⟩ := hres.arg2 (by decide) (by decide) (by decide) (by intro v hv; simp at hv <;> (subst hv; decide))
  exact ⟨D6, d6, D7, d7, D8, d8, D9, d9, rfl, (hK w' (fun _ _ _ => rfl)).1, h9, (hK w' (fun _ _ _ => rfl)).2, hb, hK⟩
theorem w_handle2 (A6 A7 A8 : Option Addr) (c6 c7 c8 : Nat) (w : World) (A : Option Addr) (c : Nat) (h : Arg w (⟨0, 3, 0, 0, true, 0, [⟨#[97]⟩], [1, 0, 0], [], [⟨1, 0, 1, 0, 0, 0, 0, [⟨#[97]⟩]⟩, ⟨1, 0, 2, 0, 0, 0, 0, [⟨#[97]⟩]⟩]⟩ : Nod) A6 A7 A8 c6 c7 c8) (hm : Kd.C Kd.string w A 0 []) (lm : 0 ≤ c) :
    Calls Try.prog 8 #[.agg #[.int .i64 0, .int .i64 3, .int .i64 0, .int .i64 0, .bool true, .int .i64 0, .slice A6 1 c6, .slice A7 3 c7, .slice A8 0 c8], .agg #[.int .i64 2, .int .i64 1, .int .i64 0, .int .i64 0, .int .i64 0, .int .i64 0, .int .i64 1, .slice A 0 c]] w fun e w' => ∃ D6 d6 D7 d7 D8 d8 D9 d9, e = .returned (.tuple #[.agg #[.int .i64 0, .int .i64 3, .int .i64 0, .int .i64 0, .bool true, .int .i64 1, .slice D6 1 d6, .slice D7 3 d7, .slice D8 0 d8], .slice D9 2 d9, .int .i64 0]) ∧ Arg w' (⟨0, 3, 0, 0, true, 1, [⟨#[97]⟩], [1, 1, 0], [], [⟨1, 0, 1, 0, 0, 1, 0, [⟨#[97]⟩]⟩, ⟨1, 0, 2, 0, 0, 1, 0, [⟨#[97]⟩]⟩]⟩ : Nod) D6 D7 D8 d6 d7 d8 ∧ 2 ≤ d9 ∧ Kd.C k28 w' D9 2 [(⟨1, 0, 1, 0, 0, 1, 0, [⟨#[97]⟩]⟩ : S28), ⟨1, 0, 2, 0, 0, 1, 0, [⟨#[97]⟩]⟩] ∧ Below w.heap.size w w' ∧ (∀ W2 : World, (∀ k, w.heap.size ≤ k → k < w'.heap.size → W2.heap[k]? = w'.heap[k]?) → Arg W2 (⟨0, 3, 0, 0, true, 1, [⟨#[97]⟩], [1, 1, 0], [], [⟨1, 0, 1, 0, 0, 1, 0, [⟨#[97]⟩]⟩, ⟨1, 0, 2, 0, 0, 1, 0, [⟨#[97]⟩]⟩]⟩ : Nod) D6 D7 D8 d6 d7 d8 ∧ Kd.C k28 W2 D9 2 [(⟨1, 0, 1, 0, 0, 1, 0, [⟨#[97]⟩]⟩ : S28), ⟨1, 0, 2, 0, 0, 1, 0, [⟨#[97]⟩]⟩]) := by
  refine (handle_calls (⟨0, 3, 0, 0, true, 0, [⟨#[97]⟩], [1, 0, 0], [], [⟨1, 0, 1, 0, 0, 0, 0, [⟨#[97]⟩]⟩, ⟨1, 0, 2, 0, 0, 0, 0, [⟨#[97]⟩]⟩]⟩ : Nod) (⟨2, 1, 0, 0, 0, 0, 1, []⟩ : S28) A6 A7 A8 A c6 c7 c8 c w h hm lm).mono ?_
  rintro e w' ⟨v6, v7, v8, v9, rfl, hres, hb⟩
  rw [show handleOf (⟨0, 3, 0, 0, true, 0, [⟨#[97]⟩], [1, 0, 0], [], [⟨1, 0, 1, 0, 0, 0, 0, [⟨#[97]⟩]⟩, ⟨1, 0, 2, 0, 0, 0, 0, [⟨#[97]⟩]⟩]⟩ : Nod) (⟨2, 1, 0, 0, 0, 0, 1, []⟩ : S28) = ((⟨0, 3, 0, 0, true, 1, [⟨#[97]⟩], [1, 1, 0], [], [⟨1, 0, 1, 0, 0, 1, 0, [⟨#[97]⟩]⟩, ⟨1, 0, 2, 0, 0, 1, 0, [⟨#[97]⟩]⟩]⟩ : Nod), 0) from by kernel_rfl] at hres ⊢
  obtain ⟨D6, d6, D7, d7, D8, d8, D9, d9, rfl, rfl, rfl, rfl, h9, hK⟩ := hres.arg2 (by decide) (by decide) (by decide) (by intro v hv; simp at hv <;> (subst hv; decide))
  exact ⟨D6, d6, D7, d7, D8, d8, D9, d9, rfl, (hK w' (fun _ _ _ => rfl)).1, h9, (hK w' (fun _ _ _ => rfl)).2, hb, hK⟩
theorem w_timeout (A6 A7 A8 : Option Addr) (c6 c7 c8 : Nat) (w : World) (h : Arg w (⟨1, 3, 0, 0, true, 0, [⟨#[97]⟩], [0, 0, 0], [], [⟨2, 1, 0, 0, 0, 0, 1, []⟩]⟩ : Nod) A6 A7 A8 c6 c7 c8) :
    Calls Try.prog 12 #[.agg #[.int .i64 1, .int .i64 3, .int .i64 0, .int .i64 0, .bool true, .int .i64 0, .slice A6 1 c6, .slice A7 3 c7, .slice A8 0 c8]] w fun e w' => ∃ D6 d6 D7 d7 D8 d8 D9 d9, e = .returned (.tuple #[.agg #[.int .i64 1, .int .i64 3, .int .i64 1, .int .i64 0, .bool false, .int .i64 0, .slice D6 1 d6, .slice D7 3 d7, .slice D8 1 d8], .slice D9 0 d9, .int .i64 0]) ∧ Arg w' (⟨1, 3, 1, 0, false, 0, [⟨#[97]⟩], [0, 0, 0], [⟨1, 0, 0, [⟨#[97]⟩]⟩], []⟩ : Nod) D6 D7 D8 d6 d7 d8 ∧ 0 ≤ d9 ∧ Kd.C k28 w' D9 0 ([] : List S28) ∧ Below w.heap.size w w' ∧ (∀ W2 : World, (∀ k, w.heap.size ≤ k → k < w'.heap.size → W2.heap[k]? = w'.heap[k]?) → Arg W2 (⟨1, 3, 1, 0, false, 0, [⟨#[97]⟩], [0, 0, 0], [⟨1, 0, 0, [⟨#[97]⟩]⟩], []⟩ : Nod) D6 D7 D8 d6 d7 d8 ∧ Kd.C k28 W2 D9 0 ([] : List S28)) := by
  refine (timeout_calls (⟨1, 3, 0, 0, true, 0, [⟨#[97]⟩], [0, 0, 0], [], [⟨2, 1, 0, 0, 0, 0, 1, []⟩]⟩ : Nod) A6 A7 A8 c6 c7 c8 w h).mono ?_
  rintro e w' ⟨v6, v7, v8, v9, rfl, hres, hb⟩
  rw [show timeoutOf (⟨1, 3, 0, 0, true, 0, [⟨#[97]⟩], [0, 0, 0], [], [⟨2, 1, 0, 0, 0, 0, 1, []⟩]⟩ : Nod) = ((⟨1, 3, 1, 0, false, 0, [⟨#[97]⟩], [0, 0, 0], [⟨1, 0, 0, [⟨#[97]⟩]⟩], []⟩ : Nod), 0) from by kernel_rfl] at hres ⊢
  obtain ⟨D6, d6, D7, d7, D8, d8, D9, d9, rfl, rfl, rfl, rfl, h9, hK⟩ := hres.arg2 (by decide) (by decide) (by decide) (by intro v hv; simp at hv <;> (subst hv; decide))
  exact ⟨D6, d6, D7, d7, D8, d8, D9, d9, rfl, (hK w' (fun _ _ _ => rfl)).1, h9, (hK w' (fun _ _ _ => rfl)).2, hb, hK⟩
theorem w_ask2 (A6 A7 A8 : Option Addr) (c6 c7 c8 : Nat) (w : World) (h : Arg w (⟨1, 3, 0, 0, true, 0, [], [0, 0, 0], [], []⟩ : Nod) A6 A7 A8 c6 c7 c8) :
    Calls Try.prog 13 #[.agg #[.int .i64 1, .int .i64 3, .int .i64 0, .int .i64 0, .bool true, .int .i64 0, .slice A6 0 c6, .slice A7 3 c7, .slice A8 0 c8], .string ⟨#[98]⟩] w fun e w' => ∃ D6 d6 D7 d7 D8 d8 D9 d9, e = .returned (.tuple #[.agg #[.int .i64 0, .int .i64 0, .int .i64 0, .int .i64 0, .bool false, .int .i64 0, .slice D6 0 d6, .slice D7 0 d7, .slice D8 0 d8], .slice D9 0 d9, .int .i64 220]) ∧ Below w.heap.size w w' := by
  refine (ask_calls (⟨1, 3, 0, 0, true, 0, [], [0, 0, 0], [], []⟩ : Nod) ⟨#[98]⟩ A6 A7 A8 c6 c7 c8 w h).mono ?_
  rintro e w' ⟨v6, v7, v8, v9, rfl, hres, hb⟩
  rw [show askOf (⟨1, 3, 0, 0, true, 0, [], [0, 0, 0], [], []⟩ : Nod) ⟨#[98]⟩ = (zeroNod, 220) from by kernel_rfl] at hres ⊢
  obtain ⟨D6, d6, D7, d7, D8, d8, D9, d9, rfl, rfl, rfl, rfl, harg, h9, hC⟩ := hres.arg (by decide) (by decide) (by decide) (by intro v hv; cases hv)
  exact ⟨D6, d6, D7, d7, D8, d8, D9, d9, rfl, hb⟩
theorem w_is (A6 A7 A8 : Option Addr) (c6 c7 c8 : Nat) (w : World) (h : Arg w (⟨0, 3, 0, 0, true, 1, [⟨#[97]⟩], [1, 1, 0], [], [⟨1, 0, 1, 0, 0, 1, 0, [⟨#[97]⟩]⟩, ⟨1, 0, 2, 0, 0, 1, 0, [⟨#[97]⟩]⟩]⟩ : Nod) A6 A7 A8 c6 c7 c8) :
    Calls Try.prog 15 #[.agg #[.int .i64 0, .int .i64 3, .int .i64 0, .int .i64 0, .bool true, .int .i64 1, .slice A6 1 c6, .slice A7 3 c7, .slice A8 0 c8]] w fun e w' => e = .returned (.bool true) ∧ Below w.heap.size w w' := by
  have hh := is_calls 0 3 0 0 true 1 [⟨#[97]⟩] [1, 1, 0] [] [⟨1, 0, 1, 0, 0, 1, 0, [⟨#[97]⟩]⟩, ⟨1, 0, 2, 0, 0, 1, 0, [⟨#[97]⟩]⟩] A6 A7 A8 c6 c7 c8 w h.h6 h.l6 h.h7 h.l7 h.h8 h.l8 h.hl h.ha h.hvl h.hv
  have e : isB (⟨0, 3, 0, 0, true, 1, [⟨#[97]⟩], [1, 1, 0], [], [⟨1, 0, 1, 0, 0, 1, 0, [⟨#[97]⟩]⟩, ⟨1, 0, 2, 0, 0, 1, 0, [⟨#[97]⟩]⟩]⟩ : Nod) = true := by kernel_rfl
  rw [e] at hh
  exact hh
theorem w_new0 (w : World) :
    Calls Try.prog 11 #[.int .i64 0, .int .i64 3] w fun e w' => ∃ D6 d6 D7 d7 D8 d8, e = .returned (.tuple #[.agg #[.int .i64 0, .int .i64 3, .int .i64 0, .int .i64 0, .bool true, .int .i64 0, .slice D6 0 d6, .slice D7 3 d7, .slice D8 0 d8], .int .i64 0]) ∧ Arg w' (⟨0, 3, 0, 0, true, 0, [], [0, 0, 0], [], []⟩ : Nod) D6 D7 D8 d6 d7 d8 ∧ Below w.heap.size w w' ∧ (∀ W2 : World, (∀ k, w.heap.size ≤ k → k < w'.heap.size → W2.heap[k]? = w'.heap[k]?) → Arg W2 (⟨0, 3, 0, 0, true, 0, [], [0, 0, 0], [], []⟩ : Nod) D6 D7 D8 d6 d7 d8) := by
  refine (replica_New.calls 0 3 0 3 0 0 true 0 [] [0, 0, 0] [] 0 w (by kernel_rfl)).mono ?_
  rintro e w' ⟨v6, v7, v8, rfl, h6, h7, h8, hb⟩
  obtain ⟨A6, c6, rfl, e6, k6⟩ := Kd.R_reads h6
  obtain ⟨A7, c7, rfl, e7, k7⟩ := Kd.R_reads h7
  obtain ⟨A8, c8, rfl, e8, k8⟩ := Kd.S_reads h8
  have hK : ∀ W2 : World, (∀ k, w.heap.size ≤ k → k < w'.heap.size → W2.heap[k]? = w'.heap[k]?) → Arg W2 (⟨0, 3, 0, 0, true, 0, [], [0, 0, 0], [], []⟩ : Nod) A6 A7 A8 c6 c7 c8 := fun W2 hm => ⟨(Kd.R_reads' (Kd.R_step (Kd.R_bound h6) (fun k hk hl => hm k hk.2.1 hl))).2.2, e6, (Kd.R_reads' (Kd.R_step (Kd.R_bound h7) (fun k hk hl => hm k hk.2.1 hl))).2.2, e7, (Kd.S_reads' (Kd.S_step (Kd.S_bound h8) (fun k hk hl => hm k hk.2.1 hl))).2.2, e8, by decide, by decide, by decide, by intro v hv; cases hv⟩
  exact ⟨A6, c6, A7, c7, A8, c8, rfl, hK w' (fun _ _ _ => rfl), hb, hK⟩
theorem w_new1 (w : World) :
    Calls Try.prog 11 #[.int .i64 1, .int .i64 3] w fun e w' => ∃ D6 d6 D7 d7 D8 d8, e = .returned (.tuple #[.agg #[.int .i64 1, .int .i64 3, .int .i64 0, .int .i64 0, .bool true, .int .i64 0, .slice D6 0 d6, .slice D7 3 d7, .slice D8 0 d8], .int .i64 0]) ∧ Arg w' (⟨1, 3, 0, 0, true, 0, [], [0, 0, 0], [], []⟩ : Nod) D6 D7 D8 d6 d7 d8 ∧ Below w.heap.size w w' ∧ (∀ W2 : World, (∀ k, w.heap.size ≤ k → k < w'.heap.size → W2.heap[k]? = w'.heap[k]?) → Arg W2 (⟨1, 3, 0, 0, true, 0, [], [0, 0, 0], [], []⟩ : Nod) D6 D7 D8 d6 d7 d8) := by
  refine (replica_New.calls 1 3 1 3 0 0 true 0 [] [0, 0, 0] [] 0 w (by kernel_rfl)).mono ?_
  rintro e w' ⟨v6, v7, v8, rfl, h6, h7, h8, hb⟩
  obtain ⟨A6, c6, rfl, e6, k6⟩ := Kd.R_reads h6
  obtain ⟨A7, c7, rfl, e7, k7⟩ := Kd.R_reads h7
  obtain ⟨A8, c8, rfl, e8, k8⟩ := Kd.S_reads h8
  have hK : ∀ W2 : World, (∀ k, w.heap.size ≤ k → k < w'.heap.size → W2.heap[k]? = w'.heap[k]?) → Arg W2 (⟨1, 3, 0, 0, true, 0, [], [0, 0, 0], [], []⟩ : Nod) A6 A7 A8 c6 c7 c8 := fun W2 hm => ⟨(Kd.R_reads' (Kd.R_step (Kd.R_bound h6) (fun k hk hl => hm k hk.2.1 hl))).2.2, e6, (Kd.R_reads' (Kd.R_step (Kd.R_bound h7) (fun k hk hl => hm k hk.2.1 hl))).2.2, e7, (Kd.S_reads' (Kd.S_step (Kd.S_bound h8) (fun k hk hl => hm k hk.2.1 hl))).2.2, e8, by decide, by decide, by decide, by intro v hv; cases hv⟩
  exact ⟨A6, c6, A7, c7, A8, c8, rfl, hK w' (fun _ _ _ => rfl), hb, hK⟩
end Go.Proofs.Ytfpfpckocemmdaa.P
end
section
namespace Go.Proofs.Ytfpfpckocemmdaa.P
open Go.RowKit Go.Proofs.YtfpfpckocemmdaaW.PrintWords Go.Proofs.YtfpfpckocemmdaaW.PrintLast Go.Proofs.YtfpfpckocemmdaaW.PrintMore
attribute [local go_sem] max2_int min2_int max_two min_two max_three min_three max_four min_four
set_option linter.unusedVariables false
set_option linter.unusedSimpArgs false
def wk_T6 : Bool × List (List Nat × List Nat) := (true, [([], []), ([], []), ([1], [1]), ([2], [2]), ([0, 3], [0, 3]), ([4], [4]), ([5], [5]), ([5], [5]), ([5], [5]), ([], []), ([9, 6, 4, 0, 1, 2, 3, 4, 5, 6, 9], [6, 9]), ([7, 10, 0, 1, 2, 3, 4, 5, 6, 7, 9, 10], [7]), ([8, 11, 0, 1, 2, 3, 4, 5, 6, 7, 8, 9, 10, 11], [8])])
def wk_B6 : List Nat := [0, 0, 2, 6, 15, 31, 63, 63, 63, 0, 639, 1791, 4095]
theorem wk_tab6 : rtab .any (opsOf Try.f9 6) = wk_T6 := by kernel_rfl
theorem wk_bits6 : waitsOk wk_T6.2 wk_B6 = true := by kernel_rfl
def wk_T9 : Bool × List (List Nat × List Nat) := (true, [([], []), ([], []), ([1], [1]), ([2], [2]), ([0, 3], [0, 3]), ([4], [4]), ([5], [5]), ([5], [5]), ([5], [5]), ([], []), ([9, 6, 4, 0, 1, 2, 3, 4, 5, 6, 9], [6, 9]), ([7, 10, 0, 1, 2, 3, 4, 5, 6, 7, 9, 10], [7]), ([8, 11, 0, 1, 2, 3, 4, 5, 6, 7, 8, 9, 10, 11], [8])])
def wk_B9 : List Nat := [0, 0, 2, 6, 15, 31, 63, 63, 63, 0, 639, 1791, 4095]
theorem wk_tab9 : rtab .any (opsOf Try.f9 9) = wk_T9 := by kernel_rfl
theorem wk_bits9 : waitsOk wk_T9.2 wk_B9 = true := by kernel_rfl
set_option maxHeartbeats 8000000 in
set_option maxRecDepth 100000 in
theorem worked_calls (w : World) : Calls Try.prog 9 #[] w fun e w' => e = .returned (.bool true) ∧ Below w.heap.size w w' := by
  have hu26 := Try.underlying26
  have hu28 := Try.underlying28
  go_enter Try.func9, Try.ntmps9
  go_wp2_with (first | (go_at_call 11; with_reducible refine (w_new0 _).mono ?_; rintro e w1 ⟨a6, a6', a7, a7', a8, a8', rfl, hA, hb, hK⟩; have HS1 := Aside0.mk ((Stays.new w1 (.cells #[.int .i64 0, .int .i64 3, .int .i64 0, .int .i64 0, .bool true, .int .i64 0, .slice a6 0 a6', .slice a7 3 a7', .slice a8 0 a8'] 26)).and ((Stays.of hK).alloc (.cells #[.int .i64 0, .int .i64 3, .int .i64 0, .int .i64 0, .bool true, .int .i64 0, .slice a6 0 a6', .slice a7 3 a7', .slice a8 0 a8'] 26))); have HB1 := Aside0.mk (below_alloc hb (.cells #[.int .i64 0, .int .i64 3, .int .i64 0, .int .i64 0, .bool true, .int .i64 0, .slice a6 0 a6', .slice a7 3 a7', .slice a8 0 a8'] 26)); clear hA hb hK))
  go_at_call 11
  with_reducible refine (w_new1 _).mono ?_
  rintro e w2 ⟨b6, b6', b7, b7', b8, b8', rfl, hA, hb, hK⟩
  have HS2 := Aside0.mk (((HS1.out.below hb).alloc (.cells #[.int .i64 1, .int .i64 3, .int .i64 0, .int .i64 0, .bool true, .int .i64 0, .slice b6 0 b6', .slice b7 3 b7', .slice b8 0 b8'] 26)).and ((Stays.new w2 (.cells #[.int .i64 1, .int .i64 3, .int .i64 0, .int .i64 0, .bool true, .int .i64 0, .slice b6 0 b6', .slice b7 3 b7', .slice b8 0 b8'] 26)).and ((Stays.of hK).alloc (.cells #[.int .i64 1, .int .i64 3, .int .i64 0, .int .i64 0, .bool true, .int .i64 0, .slice b6 0 b6', .slice b7 3 b7', .slice b8 0 b8'] 26))))
  have HB2 := Aside0.mk (below_alloc (below_step HB1.out hb) (.cells #[.int .i64 1, .int .i64 3, .int .i64 0, .int .i64 0, .bool true, .int .i64 0, .slice b6 0 b6', .slice b7 3 b7', .slice b8 0 b8'] 26))
  have p0 : (w2.alloc (.cells #[.int .i64 1, .int .i64 3, .int .i64 0, .int .i64 0, .bool true, .int .i64 0, .slice b6 0 b6', .slice b7 3 b7', .slice b8 0 b8'] 26)).cell? ⟨w1.heap.size, 0, none⟩ = some (.int .i64 0) := blk_cell HS2.out.here.1.1 0
  have p1 : (w2.alloc (.cells #[.int .i64 1, .int .i64 3, .int .i64 0, .int .i64 0, .bool true, .int .i64 0, .slice b6 0 b6', .slice b7 3 b7', .slice b8 0 b8'] 26)).cell? ⟨w1.heap.size, 1, none⟩ = some (.int .i64 3) := blk_cell HS2.out.here.1.1 1
  have p2 : (w2.alloc (.cells #[.int .i64 1, .int .i64 3, .int .i64 0, .int .i64 0, .bool true, .int .i64 0, .slice b6 0 b6', .slice b7 3 b7', .slice b8 0 b8'] 26)).cell? ⟨w1.heap.size, 2, none⟩ = some (.int .i64 0) := blk_cell HS2.out.here.1.1 2
  have p3 : (w2.alloc (.cells #[.int .i64 1, .int .i64 3, .int .i64 0, .int .i64 0, .bool true, .int .i64 0, .slice b6 0 b6', .slice b7 3 b7', .slice b8 0 b8'] 26)).cell? ⟨w1.heap.size, 3, none⟩ = some (.int .i64 0) := blk_cell HS2.out.here.1.1 3
  have p4 : (w2.alloc (.cells #[.int .i64 1, .int .i64 3, .int .i64 0, .int .i64 0, .bool true, .int .i64 0, .slice b6 0 b6', .slice b7 3 b7', .slice b8 0 b8'] 26)).cell? ⟨w1.heap.size, 4, none⟩ = some (.bool true) := blk_cell HS2.out.here.1.1 4
  have p5 : (w2.alloc (.cells #[.int .i64 1, .int .i64 3, .int .i64 0, .int .i64 0, .bool true, .int .i64 0, .slice b6 0 b6', .slice b7 3 b7', .slice b8 0 b8'] 26)).cell? ⟨w1.heap.size, 5, none⟩ = some (.int .i64 0) := blk_cell HS2.out.here.1.1 5
  have p6 : (w2.alloc (.cells #[.int .i64 1, .int .i64 3, .int .i64 0, .int .i64 0, .bool true, .int .i64 0, .slice b6 0 b6', .slice b7 3 b7', .slice b8 0 b8'] 26)).cell? ⟨w1.heap.size, 6, none⟩ = some (.slice a6 0 a6') := blk_cell HS2.out.here.1.1 6
  have p7 : (w2.alloc (.cells #[.int .i64 1, .int .i64 3, .int .i64 0, .int .i64 0, .bool true, .int .i64 0, .slice b6 0 b6', .slice b7 3 b7', .slice b8 0 b8'] 26)).cell? ⟨w1.heap.size, 7, none⟩ = some (.slice a7 3 a7') := blk_cell HS2.out.here.1.1 7
  have p8 : (w2.alloc (.cells #[.int .i64 1, .int .i64 3, .int .i64 0, .int .i64 0, .bool true, .int .i64 0, .slice b6 0 b6', .slice b7 3 b7', .slice b8 0 b8'] 26)).cell? ⟨w1.heap.size, 8, none⟩ = some (.slice a8 0 a8') := blk_cell HS2.out.here.1.1 8
  clear hA hb hK HS1 HB1
  go_wp2_with (fail)
  go_at_call 13
  with_reducible refine (w_ask1 _ _ _ _ _ _ _ HS2.out.here.1.2).mono ?_
  rintro e w3 ⟨c6, c6', c7, c7', c8, c8', t6, t6', rfl, hA, h9, hC, hb, hK⟩
  have HS3 := Aside0.mk (show Stays (w3.alloc (.cells #[.int .i64 0, .int .i64 3, .int .i64 0, .int .i64 0, .bool true, .int .i64 0, .slice c6 1 c6', .slice c7 3 c7', .slice c8 0 c8'] 26)) (fun W => W.heap[w2.heap.size]? = some (.cells #[.int .i64 1, .int .i64 3, .int .i64 0, .int .i64 0, .bool true, .int .i64 0, .slice b6 0 b6', .slice b7 3 b7', .slice b8 0 b8'] 26 (0, 0)) ∧ W.heap[w3.heap.size]? = some (.cells #[.int .i64 0, .int .i64 3, .int .i64 0, .int .i64 0, .bool true, .int .i64 0, .slice c6 1 c6', .slice c7 3 c7', .slice c8 0 c8'] 26 (0, 0)) ∧ Arg W (⟨1, 3, 0, 0, true, 0, [], [0, 0, 0], [], []⟩ : Nod) b6 b7 b8 b6' b7' b8' ∧ Arg W (⟨0, 3, 0, 0, true, 0, [⟨#[97]⟩], [1, 0, 0], [], [⟨1, 0, 1, 0, 0, 0, 0, [⟨#[97]⟩]⟩, ⟨1, 0, 2, 0, 0, 0, 0, [⟨#[97]⟩]⟩]⟩ : Nod) c6 c7 c8 c6' c7' c8' ∧ Kd.C k28 W t6 2 [(⟨1, 0, 1, 0, 0, 0, 0, [⟨#[97]⟩]⟩ : S28), (⟨1, 0, 2, 0, 0, 0, 0, [⟨#[97]⟩]⟩ : S28)]) from (((HS2.out.below hb).alloc (.cells #[.int .i64 0, .int .i64 3, .int .i64 0, .int .i64 0, .bool true, .int .i64 0, .slice c6 1 c6', .slice c7 3 c7', .slice c8 0 c8'] 26)).and ((Stays.new w3 (.cells #[.int .i64 0, .int .i64 3, .int .i64 0, .int .i64 0, .bool true, .int .i64 0, .slice c6 1 c6', .slice c7 3 c7', .slice c8 0 c8'] 26)).and ((Stays.of hK).alloc (.cells #[.int .i64 0, .int .i64 3, .int .i64 0, .int .i64 0, .bool true, .int .i64 0, .slice c6 1 c6', .slice c7 3 c7', .slice c8 0 c8'] 26)))).mono (fun W' h => ⟨h.1.2.1, h.2.1, h.1.2.2, h.2.2.1, h.2.2.2⟩))
  have HB := Aside0.mk (below_alloc (below_step HB2.out hb) (.cells #[.int .i64 0, .int .i64 3, .int .i64 0, .int .i64 0, .bool true, .int .i64 0, .slice c6 1 c6', .slice c7 3 c7', .slice c8 0 c8'] 26))
  have q0 : (w3.alloc (.cells #[.int .i64 0, .int .i64 3, .int .i64 0, .int .i64 0, .bool true, .int .i64 0, .slice c6 1 c6', .slice c7 3 c7', .slice c8 0 c8'] 26)).cell? ⟨w2.heap.size, 0, none⟩ = some (.int .i64 1) := blk_cell HS3.out.here.1 0
  have q1 : (w3.alloc (.cells #[.int .i64 0, .int .i64 3, .int .i64 0, .int .i64 0, .bool true, .int .i64 0, .slice c6 1 c6', .slice c7 3 c7', .slice c8 0 c8'] 26)).cell? ⟨w2.heap.size, 1, none⟩ = some (.int .i64 3) := blk_cell HS3.out.here.1 1
  have q2 : (w3.alloc (.cells #[.int .i64 0, .int .i64 3, .int .i64 0, .int .i64 0, .bool true, .int .i64 0, .slice c6 1 c6', .slice c7 3 c7', .slice c8 0 c8'] 26)).cell? ⟨w2.heap.size, 2, none⟩ = some (.int .i64 0) := blk_cell HS3.out.here.1 2
  have q3 : (w3.alloc (.cells #[.int .i64 0, .int .i64 3, .int .i64 0, .int .i64 0, .bool true, .int .i64 0, .slice c6 1 c6', .slice c7 3 c7', .slice c8 0 c8'] 26)).cell? ⟨w2.heap.size, 3, none⟩ = some (.int .i64 0) := blk_cell HS3.out.here.1 3
  have q4 : (w3.alloc (.cells #[.int .i64 0, .int .i64 3, .int .i64 0, .int .i64 0, .bool true, .int .i64 0, .slice c6 1 c6', .slice c7 3 c7', .slice c8 0 c8'] 26)).cell? ⟨w2.heap.size, 4, none⟩ = some (.bool true) := blk_cell HS3.out.here.1 4
  have q5 : (w3.alloc (.cells #[.int .i64 0, .int .i64 3, .int .i64 0, .int .i64 0, .bool true, .int .i64 0, .slice c6 1 c6', .slice c7 3 c7', .slice c8 0 c8'] 26)).cell? ⟨w2.heap.size, 5, none⟩ = some (.int .i64 0) := blk_cell HS3.out.here.1 5
  have q6 : (w3.alloc (.cells #[.int .i64 0, .int .i64 3, .int .i64 0, .int .i64 0, .bool true, .int .i64 0, .slice c6 1 c6', .slice c7 3 c7', .slice c8 0 c8'] 26)).cell? ⟨w2.heap.size, 6, none⟩ = some (.slice b6 0 b6') := blk_cell HS3.out.here.1 6
  have q7 : (w3.alloc (.cells #[.int .i64 0, .int .i64 3, .int .i64 0, .int .i64 0, .bool true, .int .i64 0, .slice c6 1 c6', .slice c7 3 c7', .slice c8 0 c8'] 26)).cell? ⟨w2.heap.size, 7, none⟩ = some (.slice b7 3 b7') := blk_cell HS3.out.here.1 7
  have q8 : (w3.alloc (.cells #[.int .i64 0, .int .i64 3, .int .i64 0, .int .i64 0, .bool true, .int .i64 0, .slice c6 1 c6', .slice c7 3 c7', .slice c8 0 c8'] 26)).cell? ⟨w2.heap.size, 8, none⟩ = some (.slice b8 0 b8') := blk_cell HS3.out.here.1 8
  clear hA h9 hC hb hK HS2 HB2 p0 p1 p2 p3 p4 p5 p6 p7 p8
  obtain ⟨ad3, zM, zm, ze, z0, z1, z2, z3, z4, z5, z6, z7, zl, zh⟩ := at_T28 HS3.out.here.2.2.2.2 0 (by decide) (by decide)
  cases ze
  simp only [show (0 : Int).toNat = 0 from rfl, Nat.zero_mul, Nat.one_mul] at z0 z1 z2 z3 z4 z5 z6 z7
  change _ = some (Value.int .i64 1) at z0
  change _ = some (Value.int .i64 0) at z1
  change _ = some (Value.int .i64 1) at z2
  change _ = some (Value.int .i64 0) at z3
  change _ = some (Value.int .i64 0) at z4
  change _ = some (Value.int .i64 0) at z5
  change _ = some (Value.int .i64 0) at z6
  change _ = some (Value.slice zM 1 zm) at z7
  rw [show ad3.add 0 = ad3 from rfl] at z0 z1 z2 z3 z4 z5 z6 z7
  have HZ := Aside0.mk (show Kd.C Kd.string (w3.alloc (.cells #[.int .i64 0, .int .i64 3, .int .i64 0, .int .i64 0, .bool true, .int .i64 0, .slice c6 1 c6', .slice c7 3 c7', .slice c8 0 c8'] 26)) zM 1 [⟨#[97]⟩] from zh)
  have HZL := Aside0.mk (show 1 ≤ zm from zl)
  clear zh zl
  obtain ⟨ad3', yM, ym, ze, y0, y1, y2, y3, y4, y5, y6, y7, zl, zh⟩ := at_T28 HS3.out.here.2.2.2.2 1 (by decide) (by decide)
  cases ze
  simp only [show (1 : Int).toNat = 1 from rfl, Nat.zero_mul, Nat.one_mul] at y0 y1 y2 y3 y4 y5 y6 y7
  change _ = some (Value.int .i64 1) at y0
  change _ = some (Value.int .i64 0) at y1
  change _ = some (Value.int .i64 2) at y2
  change _ = some (Value.int .i64 0) at y3
  change _ = some (Value.int .i64 0) at y4
  change _ = some (Value.int .i64 0) at y5
  change _ = some (Value.int .i64 0) at y6
  change _ = some (Value.slice yM 1 ym) at y7
  change (w3.alloc (.cells #[.int .i64 0, .int .i64 3, .int .i64 0, .int .i64 0, .bool true, .int .i64 0, .slice c6 1 c6', .slice c7 3 c7', .slice c8 0 c8'] 26)).cell? ⟨ad3.block, ad3.off + 8 + 2, none⟩ = _ at y2
  clear y0 y1 y3 y4 y5 y6 y7 zh zl
  have HS := Aside0.mk (show Stays (w3.alloc (.cells #[.int .i64 0, .int .i64 3, .int .i64 0, .int .i64 0, .bool true, .int .i64 0, .slice c6 1 c6', .slice c7 3 c7', .slice c8 0 c8'] 26)) (fun W => W.heap[w2.heap.size]? = some (.cells #[.int .i64 1, .int .i64 3, .int .i64 0, .int .i64 0, .bool true, .int .i64 0, .slice b6 0 b6', .slice b7 3 b7', .slice b8 0 b8'] 26 (0, 0)) ∧ W.heap[w3.heap.size]? = some (.cells #[.int .i64 0, .int .i64 3, .int .i64 0, .int .i64 0, .bool true, .int .i64 0, .slice c6 1 c6', .slice c7 3 c7', .slice c8 0 c8'] 26 (0, 0)) ∧ Arg W (⟨1, 3, 0, 0, true, 0, [], [0, 0, 0], [], []⟩ : Nod) b6 b7 b8 b6' b7' b8' ∧ Arg W (⟨0, 3, 0, 0, true, 0, [⟨#[97]⟩], [1, 0, 0], [], [⟨1, 0, 1, 0, 0, 0, 0, [⟨#[97]⟩]⟩, ⟨1, 0, 2, 0, 0, 0, 0, [⟨#[97]⟩]⟩]⟩ : Nod) c6 c7 c8 c6' c7' c8') from HS3.out.mono (fun W' h => ⟨h.1, h.2.1, h.2.2.1, h.2.2.2.1⟩))
  clear HS3
  go_wp2_with (fail)
  clear y2
  generalize (w3.alloc (.cells #[.int .i64 0, .int .i64 3, .int .i64 0, .int .i64 0, .bool true, .int .i64 0, .slice c6 1 c6', .slice c7 3 c7', .slice c8 0 c8'] 26)) = wc at HS HB HZ q0 q1 q2 q3 q4 q5 q6 q7 q8 z0 z1 z2 z3 z4 z5 z6 z7 ⊢
  refine start_ (n := 13) (S := fun w' => w'.cell? ⟨w2.heap.size, 0, none⟩ = some (.int .i64 1) ∧ w'.cell? ⟨w2.heap.size, 1, none⟩ = some (.int .i64 3) ∧ w'.cell? ⟨w2.heap.size, 2, none⟩ = some (.int .i64 0) ∧ w'.cell? ⟨w2.heap.size, 3, none⟩ = some (.int .i64 0) ∧ w'.cell? ⟨w2.heap.size, 4, none⟩ = some (.bool true) ∧ w'.cell? ⟨w2.heap.size, 5, none⟩ = some (.int .i64 0) ∧ w'.cell? ⟨w2.heap.size, 6, none⟩ = some (.slice b6 0 b6') ∧ w'.cell? ⟨w2.heap.size, 7, none⟩ = some (.slice b7 3 b7') ∧ w'.cell? ⟨w2.heap.size, 8, none⟩ = some (.slice b8 0 b8') ∧ w'.cell? ad3 = some (.int .i64 1) ∧ w'.cell? ⟨ad3.block, ad3.off + 1, none⟩ = some (.int .i64 0) ∧ w'.cell? ⟨ad3.block, ad3.off + 2, none⟩ = some (.int .i64 1) ∧ w'.cell? ⟨ad3.block, ad3.off + 3, none⟩ = some (.int .i64 0) ∧ w'.cell? ⟨ad3.block, ad3.off + 4, none⟩ = some (.int .i64 0) ∧ w'.cell? ⟨ad3.block, ad3.off + 5, none⟩ = some (.int .i64 0) ∧ w'.cell? ⟨ad3.block, ad3.off + 6, none⟩ = some (.int .i64 0) ∧ w'.cell? ⟨ad3.block, ad3.off + 7, none⟩ = some (.slice zM 1 zm)) (ds := []) #[false, false, false, false, false, false, false, false, false, false, false, false, false] (by kernel_rfl) rfl rfl ⟨q0, q1, q2, q3, q4, q5, q6, q7, q8, z0, z1, z2, z3, z4, z5, z6, z7⟩ (fun hHeld => ?_)
  refine with_tabW wk_tab6 wk_bits6 (fun HT_ HW_ => ?_)
  have HS' : Aside0 (Stays wc.drew (fun W => W.heap[w2.heap.size]? = some (.cells #[.int .i64 1, .int .i64 3, .int .i64 0, .int .i64 0, .bool true, .int .i64 0, .slice b6 0 b6', .slice b7 3 b7', .slice b8 0 b8'] 26 (0, 0)) ∧ W.heap[w3.heap.size]? = some (.cells #[.int .i64 0, .int .i64 3, .int .i64 0, .int .i64 0, .bool true, .int .i64 0, .slice c6 1 c6', .slice c7 3 c7', .slice c8 0 c8'] 26 (0, 0)) ∧ Arg W (⟨1, 3, 0, 0, true, 0, [], [0, 0, 0], [], []⟩ : Nod) b6 b7 b8 b6' b7' b8' ∧ Arg W (⟨0, 3, 0, 0, true, 0, [⟨#[97]⟩], [1, 0, 0], [], [⟨1, 0, 1, 0, 0, 0, 0, [⟨#[97]⟩]⟩, ⟨1, 0, 2, 0, 0, 0, 0, [⟨#[97]⟩]⟩]⟩ : Nod) c6 c7 c8 c6' c7' c8')) := ⟨HS.out⟩
  have HB' : Aside0 (Below w.heap.size w wc.drew) := ⟨below_drew1 HB.out⟩
  have HZ' : Aside0 (Kd.C Kd.string wc.drew zM 1 [⟨#[97]⟩]) := ⟨HZ.out⟩
  have hgin' : w2.heap.size < wc.drew.heap.size := World.block_lt_of_cell? _ _ hHeld.1
  have had' : ad3.block < wc.drew.heap.size := World.block_lt_of_cell? _ _ hHeld.2.2.2.2.2.2.2.2.2.1
  clear HS HB HZ q0 q1 q2 q3 q4 q5 q6 q7 q8 z0 z1 z2 z3 z4 z5 z6 z7
  generalize wc.drew = w0_6 at HS' HB' HZ' hgin' had' hHeld ⊢
  have HB0 := Aside0.mk (below_size HB'.out)
  refine pure_ (i := 1) (N := some 65) (v := ?_) (a' := ?_) #[false, true, false, false, false, false, false, false, false, false, false, false, false] rfl rfl (any_of HT_.out (by kernel_rfl)) (fun _ _ _ h => h) (Or.inl ⟨by rfl, ?_⟩) ?_ ?_
  rotate_left
  · intro w'
    go_simp
    with_reducible rfl
  rotate_left
  · simp only [Act.put, List.setIfInBounds_toArray, List.set_cons_zero, List.set_cons_succ, i64_w, i32_w]
    rfl
  refine pure_ (i := 2) (N := some 66) (v := ?_) (a' := ?_) #[false, true, true, false, false, false, false, false, false, false, false, false, false] rfl rfl (any_of HT_.out (by kernel_rfl)) (fun _ _ _ h => h) (Or.inl ⟨by rfl, ?_⟩) ?_ ?_
  rotate_left
  · intro w'
    go_simp
    with_reducible rfl
  rotate_left
  · simp only [Act.put, List.setIfInBounds_toArray, List.set_cons_zero, List.set_cons_succ, i64_w, i32_w]
    rfl
  refine take_ (i := 0) (N := some 64) (v := ?_) (a' := ?_) #[true, true, true, false, false, false, false, false, false, false, false, false, false] rfl rfl (take_ofW HT_.out HW_.out (by kernel_rfl)) (fun _ _ _ h => h) (Or.inl ⟨by rfl, ?_⟩) hHeld ?_ ?_
  rotate_left
  · rintro w' ⟨s0, s1, s2, s3, s4, s5, s6, s7, s8, s9, s10, s11, s12, s13, s14, s15, s16⟩
    go_simp
    with_reducible rfl
  rotate_left
  · simp only [Act.put, List.setIfInBounds_toArray, List.set_cons_zero, List.set_cons_succ, i64_w, i32_w]
    rfl
  refine take_ (i := 3) (N := some 67) (v := ?_) (a' := ?_) #[true, true, true, true, false, false, false, false, false, false, false, false, false] rfl rfl (take_ofW HT_.out HW_.out (by kernel_rfl)) (fun _ _ _ h => h) (Or.inl ⟨by rfl, ?_⟩) hHeld ?_ ?_
  rotate_left
  · rintro w' ⟨s0, s1, s2, s3, s4, s5, s6, s7, s8, s9, s10, s11, s12, s13, s14, s15, s16⟩
    go_simp
    with_reducible rfl
  rotate_left
  · simp only [Act.put, List.setIfInBounds_toArray, List.set_cons_zero, List.set_cons_succ, i64_w, i32_w]
    rfl
  refine join_ (σ := Option Addr × Nat × Option Addr × Nat × Option Addr × Nat × Option Addr × Nat × Nat) 3 #[true, true, true, true, true, true, true, true, true, true, false, false, false] (fun s_ => [(68, .tuple #[.agg #[.int .i64 1, .int .i64 3, .int .i64 0, .int .i64 0, .bool true, .int .i64 0, .slice s_.1 1 s_.2.1, .slice s_.2.2.1 3 s_.2.2.2.1, .slice s_.2.2.2.2.1 0 s_.2.2.2.2.2.1], .slice s_.2.2.2.2.2.2.1 1 s_.2.2.2.2.2.2.2.1, .int .i64 0]), (8, .pointer (some ⟨s_.2.2.2.2.2.2.2.2, 0, none⟩)), (63, .tuple #[.agg #[.int .i64 1, .int .i64 3, .int .i64 0, .int .i64 0, .bool true, .int .i64 0, .slice s_.1 1 s_.2.1, .slice s_.2.2.1 3 s_.2.2.2.1, .slice s_.2.2.2.2.1 0 s_.2.2.2.2.2.1], .slice s_.2.2.2.2.2.2.1 1 s_.2.2.2.2.2.2.2.1, .int .i64 0]), (69, .agg #[.int .i64 1, .int .i64 3, .int .i64 0, .int .i64 0, .bool true, .int .i64 0, .slice s_.1 1 s_.2.1, .slice s_.2.2.1 3 s_.2.2.2.1, .slice s_.2.2.2.2.1 0 s_.2.2.2.2.2.1]), (70, .slice s_.2.2.2.2.2.2.1 1 s_.2.2.2.2.2.2.2.1), (71, .int .i64 0)]) (fun s_ w' => (w'.cell? ⟨w2.heap.size, 0, none⟩ = some (.int .i64 1) ∧ w'.cell? ⟨w2.heap.size, 1, none⟩ = some (.int .i64 3) ∧ w'.cell? ⟨w2.heap.size, 2, none⟩ = some (.int .i64 0) ∧ w'.cell? ⟨w2.heap.size, 3, none⟩ = some (.int .i64 0) ∧ w'.cell? ⟨w2.heap.size, 4, none⟩ = some (.bool true) ∧ w'.cell? ⟨w2.heap.size, 5, none⟩ = some (.int .i64 0) ∧ w'.cell? ⟨w2.heap.size, 6, none⟩ = some (.slice b6 0 b6') ∧ w'.cell? ⟨w2.heap.size, 7, none⟩ = some (.slice b7 3 b7') ∧ w'.cell? ⟨w2.heap.size, 8, none⟩ = some (.slice b8 0 b8') ∧ w'.cell? ad3 = some (.int .i64 1) ∧ w'.cell? ⟨ad3.block, ad3.off + 1, none⟩ = some (.int .i64 0) ∧ w'.cell? ⟨ad3.block, ad3.off + 2, none⟩ = some (.int .i64 1) ∧ w'.cell? ⟨ad3.block, ad3.off + 3, none⟩ = some (.int .i64 0) ∧ w'.cell? ⟨ad3.block, ad3.off + 4, none⟩ = some (.int .i64 0) ∧ w'.cell? ⟨ad3.block, ad3.off + 5, none⟩ = some (.int .i64 0) ∧ w'.cell? ⟨ad3.block, ad3.off + 6, none⟩ = some (.int .i64 0) ∧ w'.cell? ⟨ad3.block, ad3.off + 7, none⟩ = some (.slice zM 1 zm)) ∧ (w'.heap[s_.2.2.2.2.2.2.2.2]? = some (.cells #[.int .i64 0, .int .i64 0, .int .i64 0, .int .i64 0, .bool false, .int .i64 0, .slice none 0 0, .slice none 0 0, .slice none 0 0] 26 (0, 0))) ∧ (StaysBut w' s_.2.2.2.2.2.2.2.2 (fun W => W.heap[w2.heap.size]? = some (.cells #[.int .i64 1, .int .i64 3, .int .i64 0, .int .i64 0, .bool true, .int .i64 0, .slice b6 0 b6', .slice b7 3 b7', .slice b8 0 b8'] 26 (0, 0)) ∧ W.heap[w3.heap.size]? = some (.cells #[.int .i64 0, .int .i64 3, .int .i64 0, .int .i64 0, .bool true, .int .i64 0, .slice c6 1 c6', .slice c7 3 c7', .slice c8 0 c8'] 26 (0, 0)) ∧ Arg W (⟨1, 3, 0, 0, true, 0, [], [0, 0, 0], [], []⟩ : Nod) b6 b7 b8 b6' b7' b8' ∧ Arg W (⟨0, 3, 0, 0, true, 0, [⟨#[97]⟩], [1, 0, 0], [], [⟨1, 0, 1, 0, 0, 0, 0, [⟨#[97]⟩]⟩, ⟨1, 0, 2, 0, 0, 0, 0, [⟨#[97]⟩]⟩]⟩ : Nod) c6 c7 c8 c6' c7' c8' ∧ Arg W (⟨1, 3, 0, 0, true, 0, [⟨#[97]⟩], [0, 0, 0], [], [⟨2, 1, 0, 0, 0, 0, 1, []⟩]⟩ : Nod) s_.1 s_.2.2.1 s_.2.2.2.2.1 s_.2.1 s_.2.2.2.1 s_.2.2.2.2.2.1 ∧ Kd.C k28 W s_.2.2.2.2.2.2.1 1 [(⟨2, 1, 0, 0, 0, 0, 1, []⟩ : S28)])) ∧ (w0_6.heap.size ≤ s_.2.2.2.2.2.2.2.2) ∧ (Below w.heap.size w w')) ?_ ?_
  rotate_left
  · intro hCont
    refine two_ (i := 4) (j := 9) (Ni := some 68) (Nj := some 8) #[true, true, true, true, true, false, false, false, false, false, false, false, false] #[true, true, true, true, false, false, false, false, false, true, false, false, false] rfl rfl rfl rfl (two_of HT_.out (by kernel_rfl)) (by decide) (by decide) (fun K hK => ?_) (fun K hK => ?_)
    · skip
      refine goes_ Try.func8 (by kernel_rfl) rfl #[.agg #[.int .i64 1, .int .i64 3, .int .i64 0, .int .i64 0, .bool true, .int .i64 0, .slice b6 0 b6', .slice b7 3 b7', .slice b8 0 b8'], .agg #[.int .i64 1, .int .i64 0, .int .i64 1, .int .i64 0, .int .i64 0, .int .i64 0, .int .i64 0, .slice zM 1 zm]] (by rfl) rfl rfl (by (try simp only [List.map_toArray, List.map_cons, List.map_nil]); first | done | rfl) ?_
      with_reducible refine (w_handle1 _ _ _ _ _ _ _ zM zm (HS'.out.here).2.2.1 HZ'.out HZL.out).mono ?_
      rintro e w4 ⟨d6, d6', d7, d7', d8, d8', s6, s6', rfl, hA, h9, hC, hb, hKK⟩
      refine ⟨_, rfl, ?_⟩
      have hS4 : w4.cell? ⟨w2.heap.size, 0, none⟩ = some (.int .i64 1) ∧ w4.cell? ⟨w2.heap.size, 1, none⟩ = some (.int .i64 3) ∧ w4.cell? ⟨w2.heap.size, 2, none⟩ = some (.int .i64 0) ∧ w4.cell? ⟨w2.heap.size, 3, none⟩ = some (.int .i64 0) ∧ w4.cell? ⟨w2.heap.size, 4, none⟩ = some (.bool true) ∧ w4.cell? ⟨w2.heap.size, 5, none⟩ = some (.int .i64 0) ∧ w4.cell? ⟨w2.heap.size, 6, none⟩ = some (.slice b6 0 b6') ∧ w4.cell? ⟨w2.heap.size, 7, none⟩ = some (.slice b7 3 b7') ∧ w4.cell? ⟨w2.heap.size, 8, none⟩ = some (.slice b8 0 b8') ∧ w4.cell? ad3 = some (.int .i64 1) ∧ w4.cell? ⟨ad3.block, ad3.off + 1, none⟩ = some (.int .i64 0) ∧ w4.cell? ⟨ad3.block, ad3.off + 2, none⟩ = some (.int .i64 1) ∧ w4.cell? ⟨ad3.block, ad3.off + 3, none⟩ = some (.int .i64 0) ∧ w4.cell? ⟨ad3.block, ad3.off + 4, none⟩ = some (.int .i64 0) ∧ w4.cell? ⟨ad3.block, ad3.off + 5, none⟩ = some (.int .i64 0) ∧ w4.cell? ⟨ad3.block, ad3.off + 6, none⟩ = some (.int .i64 0) ∧ w4.cell? ⟨ad3.block, ad3.off + 7, none⟩ = some (.slice zM 1 zm) := ⟨(hb.cell (World.block_lt_of_cell? _ _ (hHeld.1))).trans (hHeld.1), (hb.cell (World.block_lt_of_cell? _ _ (hHeld.2.1))).trans (hHeld.2.1), (hb.cell (World.block_lt_of_cell? _ _ (hHeld.2.2.1))).trans (hHeld.2.2.1), (hb.cell (World.block_lt_of_cell? _ _ (hHeld.2.2.2.1))).trans (hHeld.2.2.2.1), (hb.cell (World.block_lt_of_cell? _ _ (hHeld.2.2.2.2.1))).trans (hHeld.2.2.2.2.1), (hb.cell (World.block_lt_of_cell? _ _ (hHeld.2.2.2.2.2.1))).trans (hHeld.2.2.2.2.2.1), (hb.cell (World.block_lt_of_cell? _ _ (hHeld.2.2.2.2.2.2.1))).trans (hHeld.2.2.2.2.2.2.1), (hb.cell (World.block_lt_of_cell? _ _ (hHeld.2.2.2.2.2.2.2.1))).trans (hHeld.2.2.2.2.2.2.2.1), (hb.cell (World.block_lt_of_cell? _ _ (hHeld.2.2.2.2.2.2.2.2.1))).trans (hHeld.2.2.2.2.2.2.2.2.1), (hb.cell (World.block_lt_of_cell? _ _ (hHeld.2.2.2.2.2.2.2.2.2.1))).trans (hHeld.2.2.2.2.2.2.2.2.2.1), (hb.cell (World.block_lt_of_cell? _ _ (hHeld.2.2.2.2.2.2.2.2.2.2.1))).trans (hHeld.2.2.2.2.2.2.2.2.2.2.1), (hb.cell (World.block_lt_of_cell? _ _ (hHeld.2.2.2.2.2.2.2.2.2.2.2.1))).trans (hHeld.2.2.2.2.2.2.2.2.2.2.2.1), (hb.cell (World.block_lt_of_cell? _ _ (hHeld.2.2.2.2.2.2.2.2.2.2.2.2.1))).trans (hHeld.2.2.2.2.2.2.2.2.2.2.2.2.1), (hb.cell (World.block_lt_of_cell? _ _ (hHeld.2.2.2.2.2.2.2.2.2.2.2.2.2.1))).trans (hHeld.2.2.2.2.2.2.2.2.2.2.2.2.2.1), (hb.cell (World.block_lt_of_cell? _ _ (hHeld.2.2.2.2.2.2.2.2.2.2.2.2.2.2.1))).trans (hHeld.2.2.2.2.2.2.2.2.2.2.2.2.2.2.1), (hb.cell (World.block_lt_of_cell? _ _ (hHeld.2.2.2.2.2.2.2.2.2.2.2.2.2.2.2.1))).trans (hHeld.2.2.2.2.2.2.2.2.2.2.2.2.2.2.2.1), (hb.cell (World.block_lt_of_cell? _ _ (hHeld.2.2.2.2.2.2.2.2.2.2.2.2.2.2.2.2))).trans (hHeld.2.2.2.2.2.2.2.2.2.2.2.2.2.2.2.2)⟩
      have HS4 := Aside0.mk ((HS'.out.below hb).and (Stays.of hKK))
      have HB4 := Aside0.mk (below_step HB'.out hb)
      have hz4 := hb.size
      clear hA h9 hC hb hKK hHeld
      refine hK.out _ _ hS4 (fun hHeld => ?_)
      clear hK K hS4
      refine norm_ (a' := ?_) ?_ ?_
      rotate_left
      · show Act.put _ (some 68) _ = _
        simp only [Act.put, List.setIfInBounds_toArray, List.set_cons_zero, List.set_cons_succ, i64_w, i32_w]
        rfl
      refine pure_ (i := 5) (N := some 63) (v := ?_) (a' := ?_) #[true, true, true, true, true, true, false, false, false, false, false, false, false] rfl rfl (any_of HT_.out (by kernel_rfl)) (fun _ _ _ h => h) (Or.inl ⟨by rfl, ?_⟩) ?_ ?_
      rotate_left
      · intro w'
        go_simp
        with_reducible rfl
      rotate_left
      · simp only [Act.put, List.setIfInBounds_toArray, List.set_cons_zero, List.set_cons_succ, i64_w, i32_w]
        rfl
      refine pure_ (i := 6) (N := some 69) (v := ?_) (a' := ?_) #[true, true, true, true, true, true, true, false, false, false, false, false, false] rfl rfl (any_of HT_.out (by kernel_rfl)) (fun _ _ _ h => h) (Or.inl ⟨by rfl, ?_⟩) ?_ ?_
      rotate_left
      · intro w'
        go_simp
        with_reducible rfl
      rotate_left
      · simp only [Act.put, List.setIfInBounds_toArray, List.set_cons_zero, List.set_cons_succ, i64_w, i32_w]
        rfl
      refine pure_ (i := 7) (N := some 70) (v := ?_) (a' := ?_) #[true, true, true, true, true, true, true, true, false, false, false, false, false] rfl rfl (any_of HT_.out (by kernel_rfl)) (fun _ _ _ h => h) (Or.inl ⟨by rfl, ?_⟩) ?_ ?_
      rotate_left
      · intro w'
        go_simp
        with_reducible rfl
      rotate_left
      · simp only [Act.put, List.setIfInBounds_toArray, List.set_cons_zero, List.set_cons_succ, i64_w, i32_w]
        rfl
      refine pure_ (i := 8) (N := some 71) (v := ?_) (a' := ?_) #[true, true, true, true, true, true, true, true, true, false, false, false, false] rfl rfl (any_of HT_.out (by kernel_rfl)) (fun _ _ _ h => h) (Or.inl ⟨by rfl, ?_⟩) ?_ ?_
      rotate_left
      · intro w'
        go_simp
        with_reducible rfl
      rotate_left
      · simp only [Act.put, List.setIfInBounds_toArray, List.set_cons_zero, List.set_cons_succ, i64_w, i32_w]
        rfl
      refine one_ (i := 9) (N := some 8) #[true, true, true, true, true, true, true, true, true, true, false, false, false] rfl rfl (one_of HT_.out (by kernel_rfl)) (by decide) (fun K hK => ?_)
      refine box_step ?hg (N := 8) ?hd (cs := #[.int .i64 0, .int .i64 0, .int .i64 0, .int .i64 0, .bool false, .int .i64 0, .slice none 0 0, .slice none 0 0, .slice none 0 0]) (t := 26) ?hr ?_; (case hd => rfl); (case hg => rfl); (case hr => first | (go_simp; done) | (go_simp; rfl))
      intro gd hg w5 hbox' hb
      have hS5 : w5.cell? ⟨w2.heap.size, 0, none⟩ = some (.int .i64 1) ∧ w5.cell? ⟨w2.heap.size, 1, none⟩ = some (.int .i64 3) ∧ w5.cell? ⟨w2.heap.size, 2, none⟩ = some (.int .i64 0) ∧ w5.cell? ⟨w2.heap.size, 3, none⟩ = some (.int .i64 0) ∧ w5.cell? ⟨w2.heap.size, 4, none⟩ = some (.bool true) ∧ w5.cell? ⟨w2.heap.size, 5, none⟩ = some (.int .i64 0) ∧ w5.cell? ⟨w2.heap.size, 6, none⟩ = some (.slice b6 0 b6') ∧ w5.cell? ⟨w2.heap.size, 7, none⟩ = some (.slice b7 3 b7') ∧ w5.cell? ⟨w2.heap.size, 8, none⟩ = some (.slice b8 0 b8') ∧ w5.cell? ad3 = some (.int .i64 1) ∧ w5.cell? ⟨ad3.block, ad3.off + 1, none⟩ = some (.int .i64 0) ∧ w5.cell? ⟨ad3.block, ad3.off + 2, none⟩ = some (.int .i64 1) ∧ w5.cell? ⟨ad3.block, ad3.off + 3, none⟩ = some (.int .i64 0) ∧ w5.cell? ⟨ad3.block, ad3.off + 4, none⟩ = some (.int .i64 0) ∧ w5.cell? ⟨ad3.block, ad3.off + 5, none⟩ = some (.int .i64 0) ∧ w5.cell? ⟨ad3.block, ad3.off + 6, none⟩ = some (.int .i64 0) ∧ w5.cell? ⟨ad3.block, ad3.off + 7, none⟩ = some (.slice zM 1 zm) := ⟨(hb.cell (World.block_lt_of_cell? _ _ (hHeld.1))).trans (hHeld.1), (hb.cell (World.block_lt_of_cell? _ _ (hHeld.2.1))).trans (hHeld.2.1), (hb.cell (World.block_lt_of_cell? _ _ (hHeld.2.2.1))).trans (hHeld.2.2.1), (hb.cell (World.block_lt_of_cell? _ _ (hHeld.2.2.2.1))).trans (hHeld.2.2.2.1), (hb.cell (World.block_lt_of_cell? _ _ (hHeld.2.2.2.2.1))).trans (hHeld.2.2.2.2.1), (hb.cell (World.block_lt_of_cell? _ _ (hHeld.2.2.2.2.2.1))).trans (hHeld.2.2.2.2.2.1), (hb.cell (World.block_lt_of_cell? _ _ (hHeld.2.2.2.2.2.2.1))).trans (hHeld.2.2.2.2.2.2.1), (hb.cell (World.block_lt_of_cell? _ _ (hHeld.2.2.2.2.2.2.2.1))).trans (hHeld.2.2.2.2.2.2.2.1), (hb.cell (World.block_lt_of_cell? _ _ (hHeld.2.2.2.2.2.2.2.2.1))).trans (hHeld.2.2.2.2.2.2.2.2.1), (hb.cell (World.block_lt_of_cell? _ _ (hHeld.2.2.2.2.2.2.2.2.2.1))).trans (hHeld.2.2.2.2.2.2.2.2.2.1), (hb.cell (World.block_lt_of_cell? _ _ (hHeld.2.2.2.2.2.2.2.2.2.2.1))).trans (hHeld.2.2.2.2.2.2.2.2.2.2.1), (hb.cell (World.block_lt_of_cell? _ _ (hHeld.2.2.2.2.2.2.2.2.2.2.2.1))).trans (hHeld.2.2.2.2.2.2.2.2.2.2.2.1), (hb.cell (World.block_lt_of_cell? _ _ (hHeld.2.2.2.2.2.2.2.2.2.2.2.2.1))).trans (hHeld.2.2.2.2.2.2.2.2.2.2.2.2.1), (hb.cell (World.block_lt_of_cell? _ _ (hHeld.2.2.2.2.2.2.2.2.2.2.2.2.2.1))).trans (hHeld.2.2.2.2.2.2.2.2.2.2.2.2.2.1), (hb.cell (World.block_lt_of_cell? _ _ (hHeld.2.2.2.2.2.2.2.2.2.2.2.2.2.2.1))).trans (hHeld.2.2.2.2.2.2.2.2.2.2.2.2.2.2.1), (hb.cell (World.block_lt_of_cell? _ _ (hHeld.2.2.2.2.2.2.2.2.2.2.2.2.2.2.2.1))).trans (hHeld.2.2.2.2.2.2.2.2.2.2.2.2.2.2.2.1), (hb.cell (World.block_lt_of_cell? _ _ (hHeld.2.2.2.2.2.2.2.2.2.2.2.2.2.2.2.2))).trans (hHeld.2.2.2.2.2.2.2.2.2.2.2.2.2.2.2.2)⟩
      have HF5 := HS4.out.but_new hg hb
      have HB5 := below_step HB4.out hb
      have hz5 : w0_6.heap.size ≤ gd := by rw [hg]; exact hz4
      refine hK.out _ _ hS5 (fun hHeld => ?_)
      clear hK K hS5
      refine norm_ (a' := ?_) ?_ ?_
      rotate_left
      · show Act.put _ (some 8) _ = _
        simp only [Act.put, List.setIfInBounds_toArray, List.set_cons_zero, List.set_cons_succ, i64_w, i32_w]
        rfl
      exact norm_ (by simp only [putAll, Act.put, List.setIfInBounds_toArray, List.set_cons_zero, List.set_cons_succ]) (hCont (d6, d6', d7, d7', d8, d8', s6, s6', gd) _ ⟨hHeld, hbox', HF5.mono (fun W' h => ⟨h.1.1, h.1.2.1, h.1.2.2.1, h.1.2.2.2, h.2.1, h.2.2⟩), hz5, HB5⟩)
    · skip
      refine box_step ?hg (N := 8) ?hd (cs := #[.int .i64 0, .int .i64 0, .int .i64 0, .int .i64 0, .bool false, .int .i64 0, .slice none 0 0, .slice none 0 0, .slice none 0 0]) (t := 26) ?hr ?_; (case hd => rfl); (case hg => rfl); (case hr => first | (go_simp; done) | (go_simp; rfl))
      intro gd hg w4 hbox hb4
      have hS4 : w4.cell? ⟨w2.heap.size, 0, none⟩ = some (.int .i64 1) ∧ w4.cell? ⟨w2.heap.size, 1, none⟩ = some (.int .i64 3) ∧ w4.cell? ⟨w2.heap.size, 2, none⟩ = some (.int .i64 0) ∧ w4.cell? ⟨w2.heap.size, 3, none⟩ = some (.int .i64 0) ∧ w4.cell? ⟨w2.heap.size, 4, none⟩ = some (.bool true) ∧ w4.cell? ⟨w2.heap.size, 5, none⟩ = some (.int .i64 0) ∧ w4.cell? ⟨w2.heap.size, 6, none⟩ = some (.slice b6 0 b6') ∧ w4.cell? ⟨w2.heap.size, 7, none⟩ = some (.slice b7 3 b7') ∧ w4.cell? ⟨w2.heap.size, 8, none⟩ = some (.slice b8 0 b8') ∧ w4.cell? ad3 = some (.int .i64 1) ∧ w4.cell? ⟨ad3.block, ad3.off + 1, none⟩ = some (.int .i64 0) ∧ w4.cell? ⟨ad3.block, ad3.off + 2, none⟩ = some (.int .i64 1) ∧ w4.cell? ⟨ad3.block, ad3.off + 3, none⟩ = some (.int .i64 0) ∧ w4.cell? ⟨ad3.block, ad3.off + 4, none⟩ = some (.int .i64 0) ∧ w4.cell? ⟨ad3.block, ad3.off + 5, none⟩ = some (.int .i64 0) ∧ w4.cell? ⟨ad3.block, ad3.off + 6, none⟩ = some (.int .i64 0) ∧ w4.cell? ⟨ad3.block, ad3.off + 7, none⟩ = some (.slice zM 1 zm) := ⟨(hb4.cell (World.block_lt_of_cell? _ _ (hHeld.1))).trans (hHeld.1), (hb4.cell (World.block_lt_of_cell? _ _ (hHeld.2.1))).trans (hHeld.2.1), (hb4.cell (World.block_lt_of_cell? _ _ (hHeld.2.2.1))).trans (hHeld.2.2.1), (hb4.cell (World.block_lt_of_cell? _ _ (hHeld.2.2.2.1))).trans (hHeld.2.2.2.1), (hb4.cell (World.block_lt_of_cell? _ _ (hHeld.2.2.2.2.1))).trans (hHeld.2.2.2.2.1), (hb4.cell (World.block_lt_of_cell? _ _ (hHeld.2.2.2.2.2.1))).trans (hHeld.2.2.2.2.2.1), (hb4.cell (World.block_lt_of_cell? _ _ (hHeld.2.2.2.2.2.2.1))).trans (hHeld.2.2.2.2.2.2.1), (hb4.cell (World.block_lt_of_cell? _ _ (hHeld.2.2.2.2.2.2.2.1))).trans (hHeld.2.2.2.2.2.2.2.1), (hb4.cell (World.block_lt_of_cell? _ _ (hHeld.2.2.2.2.2.2.2.2.1))).trans (hHeld.2.2.2.2.2.2.2.2.1), (hb4.cell (World.block_lt_of_cell? _ _ (hHeld.2.2.2.2.2.2.2.2.2.1))).trans (hHeld.2.2.2.2.2.2.2.2.2.1), (hb4.cell (World.block_lt_of_cell? _ _ (hHeld.2.2.2.2.2.2.2.2.2.2.1))).trans (hHeld.2.2.2.2.2.2.2.2.2.2.1), (hb4.cell (World.block_lt_of_cell? _ _ (hHeld.2.2.2.2.2.2.2.2.2.2.2.1))).trans (hHeld.2.2.2.2.2.2.2.2.2.2.2.1), (hb4.cell (World.block_lt_of_cell? _ _ (hHeld.2.2.2.2.2.2.2.2.2.2.2.2.1))).trans (hHeld.2.2.2.2.2.2.2.2.2.2.2.2.1), (hb4.cell (World.block_lt_of_cell? _ _ (hHeld.2.2.2.2.2.2.2.2.2.2.2.2.2.1))).trans (hHeld.2.2.2.2.2.2.2.2.2.2.2.2.2.1), (hb4.cell (World.block_lt_of_cell? _ _ (hHeld.2.2.2.2.2.2.2.2.2.2.2.2.2.2.1))).trans (hHeld.2.2.2.2.2.2.2.2.2.2.2.2.2.2.1), (hb4.cell (World.block_lt_of_cell? _ _ (hHeld.2.2.2.2.2.2.2.2.2.2.2.2.2.2.2.1))).trans (hHeld.2.2.2.2.2.2.2.2.2.2.2.2.2.2.2.1), (hb4.cell (World.block_lt_of_cell? _ _ (hHeld.2.2.2.2.2.2.2.2.2.2.2.2.2.2.2.2))).trans (hHeld.2.2.2.2.2.2.2.2.2.2.2.2.2.2.2.2)⟩
      have HF4 := HS'.out.but_new hg hb4
      have HB4 := Aside0.mk (below_step HB'.out hb4)
      have hz5 : w0_6.heap.size ≤ gd := Nat.le_of_eq hg.symm
      have hz6 : gd < w4.heap.size := blk_lt hbox
      refine hK.out _ _ hS4 (fun hHeld => ?_)
      clear hK K hS4
      refine norm_ (a' := ?_) ?_ ?_
      rotate_left
      · show Act.put _ (some 8) _ = _
        simp only [Act.put, List.setIfInBounds_toArray, List.set_cons_zero, List.set_cons_succ, i64_w, i32_w]
        rfl
      refine one_ (i := 4) (N := some 68) #[true, true, true, true, true, false, false, false, false, true, false, false, false] rfl rfl (one_of HT_.out (by kernel_rfl)) (by decide) (fun K hK => ?_)
      refine goes_ Try.func8 (by kernel_rfl) rfl #[.agg #[.int .i64 1, .int .i64 3, .int .i64 0, .int .i64 0, .bool true, .int .i64 0, .slice b6 0 b6', .slice b7 3 b7', .slice b8 0 b8'], .agg #[.int .i64 1, .int .i64 0, .int .i64 1, .int .i64 0, .int .i64 0, .int .i64 0, .int .i64 0, .slice zM 1 zm]] (by rfl) rfl rfl (by (try simp only [List.map_toArray, List.map_cons, List.map_nil]); first | done | rfl) ?_
      with_reducible refine (w_handle1 _ _ _ _ _ _ _ zM zm (HF4.here).2.2.1 (Kd.C_below HZ'.out hb4) HZL.out).mono ?_
      rintro e w5 ⟨d6, d6', d7, d7', d8, d8', s6, s6', rfl, hA, h9, hC, hb, hKK⟩
      refine ⟨_, rfl, ?_⟩
      have hS5 : w5.cell? ⟨w2.heap.size, 0, none⟩ = some (.int .i64 1) ∧ w5.cell? ⟨w2.heap.size, 1, none⟩ = some (.int .i64 3) ∧ w5.cell? ⟨w2.heap.size, 2, none⟩ = some (.int .i64 0) ∧ w5.cell? ⟨w2.heap.size, 3, none⟩ = some (.int .i64 0) ∧ w5.cell? ⟨w2.heap.size, 4, none⟩ = some (.bool true) ∧ w5.cell? ⟨w2.heap.size, 5, none⟩ = some (.int .i64 0) ∧ w5.cell? ⟨w2.heap.size, 6, none⟩ = some (.slice b6 0 b6') ∧ w5.cell? ⟨w2.heap.size, 7, none⟩ = some (.slice b7 3 b7') ∧ w5.cell? ⟨w2.heap.size, 8, none⟩ = some (.slice b8 0 b8') ∧ w5.cell? ad3 = some (.int .i64 1) ∧ w5.cell? ⟨ad3.block, ad3.off + 1, none⟩ = some (.int .i64 0) ∧ w5.cell? ⟨ad3.block, ad3.off + 2, none⟩ = some (.int .i64 1) ∧ w5.cell? ⟨ad3.block, ad3.off + 3, none⟩ = some (.int .i64 0) ∧ w5.cell? ⟨ad3.block, ad3.off + 4, none⟩ = some (.int .i64 0) ∧ w5.cell? ⟨ad3.block, ad3.off + 5, none⟩ = some (.int .i64 0) ∧ w5.cell? ⟨ad3.block, ad3.off + 6, none⟩ = some (.int .i64 0) ∧ w5.cell? ⟨ad3.block, ad3.off + 7, none⟩ = some (.slice zM 1 zm) := ⟨(hb.cell (World.block_lt_of_cell? _ _ (hHeld.1))).trans (hHeld.1), (hb.cell (World.block_lt_of_cell? _ _ (hHeld.2.1))).trans (hHeld.2.1), (hb.cell (World.block_lt_of_cell? _ _ (hHeld.2.2.1))).trans (hHeld.2.2.1), (hb.cell (World.block_lt_of_cell? _ _ (hHeld.2.2.2.1))).trans (hHeld.2.2.2.1), (hb.cell (World.block_lt_of_cell? _ _ (hHeld.2.2.2.2.1))).trans (hHeld.2.2.2.2.1), (hb.cell (World.block_lt_of_cell? _ _ (hHeld.2.2.2.2.2.1))).trans (hHeld.2.2.2.2.2.1), (hb.cell (World.block_lt_of_cell? _ _ (hHeld.2.2.2.2.2.2.1))).trans (hHeld.2.2.2.2.2.2.1), (hb.cell (World.block_lt_of_cell? _ _ (hHeld.2.2.2.2.2.2.2.1))).trans (hHeld.2.2.2.2.2.2.2.1), (hb.cell (World.block_lt_of_cell? _ _ (hHeld.2.2.2.2.2.2.2.2.1))).trans (hHeld.2.2.2.2.2.2.2.2.1), (hb.cell (World.block_lt_of_cell? _ _ (hHeld.2.2.2.2.2.2.2.2.2.1))).trans (hHeld.2.2.2.2.2.2.2.2.2.1), (hb.cell (World.block_lt_of_cell? _ _ (hHeld.2.2.2.2.2.2.2.2.2.2.1))).trans (hHeld.2.2.2.2.2.2.2.2.2.2.1), (hb.cell (World.block_lt_of_cell? _ _ (hHeld.2.2.2.2.2.2.2.2.2.2.2.1))).trans (hHeld.2.2.2.2.2.2.2.2.2.2.2.1), (hb.cell (World.block_lt_of_cell? _ _ (hHeld.2.2.2.2.2.2.2.2.2.2.2.2.1))).trans (hHeld.2.2.2.2.2.2.2.2.2.2.2.2.1), (hb.cell (World.block_lt_of_cell? _ _ (hHeld.2.2.2.2.2.2.2.2.2.2.2.2.2.1))).trans (hHeld.2.2.2.2.2.2.2.2.2.2.2.2.2.1), (hb.cell (World.block_lt_of_cell? _ _ (hHeld.2.2.2.2.2.2.2.2.2.2.2.2.2.2.1))).trans (hHeld.2.2.2.2.2.2.2.2.2.2.2.2.2.2.1), (hb.cell (World.block_lt_of_cell? _ _ (hHeld.2.2.2.2.2.2.2.2.2.2.2.2.2.2.2.1))).trans (hHeld.2.2.2.2.2.2.2.2.2.2.2.2.2.2.2.1), (hb.cell (World.block_lt_of_cell? _ _ (hHeld.2.2.2.2.2.2.2.2.2.2.2.2.2.2.2.2))).trans (hHeld.2.2.2.2.2.2.2.2.2.2.2.2.2.2.2.2)⟩
      have HF5 := (HF4.below hb).and (StaysBut.of hKK hz6)
      have HB5 := below_step HB4.out hb
      have hbox' := blk_below hbox hb
      clear hA h9 hC hKK hHeld
      refine hK.out _ _ hS5 (fun hHeld => ?_)
      clear hK K hS5
      refine norm_ (a' := ?_) ?_ ?_
      rotate_left
      · show Act.put _ (some 68) _ = _
        simp only [Act.put, List.setIfInBounds_toArray, List.set_cons_zero, List.set_cons_succ, i64_w, i32_w]
        rfl
      refine pure_ (i := 5) (N := some 63) (v := ?_) (a' := ?_) #[true, true, true, true, true, true, false, false, false, true, false, false, false] rfl rfl (any_of HT_.out (by kernel_rfl)) (fun _ _ _ h => h) (Or.inl ⟨by rfl, ?_⟩) ?_ ?_
      rotate_left
      · intro w'
        go_simp
        with_reducible rfl
      rotate_left
      · simp only [Act.put, List.setIfInBounds_toArray, List.set_cons_zero, List.set_cons_succ, i64_w, i32_w]
        rfl
      refine pure_ (i := 6) (N := some 69) (v := ?_) (a' := ?_) #[true, true, true, true, true, true, true, false, false, true, false, false, false] rfl rfl (any_of HT_.out (by kernel_rfl)) (fun _ _ _ h => h) (Or.inl ⟨by rfl, ?_⟩) ?_ ?_
      rotate_left
      · intro w'
        go_simp
        with_reducible rfl
      rotate_left
      · simp only [Act.put, List.setIfInBounds_toArray, List.set_cons_zero, List.set_cons_succ, i64_w, i32_w]
        rfl
      refine pure_ (i := 7) (N := some 70) (v := ?_) (a' := ?_) #[true, true, true, true, true, true, true, true, false, true, false, false, false] rfl rfl (any_of HT_.out (by kernel_rfl)) (fun _ _ _ h => h) (Or.inl ⟨by rfl, ?_⟩) ?_ ?_
      rotate_left
      · intro w'
        go_simp
        with_reducible rfl
      rotate_left
      · simp only [Act.put, List.setIfInBounds_toArray, List.set_cons_zero, List.set_cons_succ, i64_w, i32_w]
        rfl
      refine pure_ (i := 8) (N := some 71) (v := ?_) (a' := ?_) #[true, true, true, true, true, true, true, true, true, true, false, false, false] rfl rfl (any_of HT_.out (by kernel_rfl)) (fun _ _ _ h => h) (Or.inl ⟨by rfl, ?_⟩) ?_ ?_
      rotate_left
      · intro w'
        go_simp
        with_reducible rfl
      rotate_left
      · simp only [Act.put, List.setIfInBounds_toArray, List.set_cons_zero, List.set_cons_succ, i64_w, i32_w]
        rfl
      exact norm_ (by simp only [putAll, Act.put, List.setIfInBounds_toArray, List.set_cons_zero, List.set_cons_succ]) (hCont (d6, d6', d7, d7', d8, d8', s6, s6', gd) _ ⟨hHeld, hbox', HF5.mono (fun W' h => ⟨h.1.1, h.1.2.1, h.1.2.2.1, h.1.2.2.2, h.2.1, h.2.2⟩), hz5, HB5⟩)
  rintro ⟨d6, d6', d7, d7', d8, d8', s6, s6', gd⟩ w5 ⟨hHeld, hbox, HF5, hz5, HB5⟩
  clear HS' HB' HZ'
  replace hz5 : w0_6.heap.size ≤ gd := hz5
  replace hbox : w5.heap[gd]? = some (.cells #[.int .i64 0, .int .i64 0, .int .i64 0, .int .i64 0, .bool false, .int .i64 0, .slice none 0 0, .slice none 0 0, .slice none 0 0] 26 (0, 0)) := hbox
  replace HF5 : StaysBut w5 gd (fun W => W.heap[w2.heap.size]? = some (.cells #[.int .i64 1, .int .i64 3, .int .i64 0, .int .i64 0, .bool true, .int .i64 0, .slice b6 0 b6', .slice b7 3 b7', .slice b8 0 b8'] 26 (0, 0)) ∧ W.heap[w3.heap.size]? = some (.cells #[.int .i64 0, .int .i64 3, .int .i64 0, .int .i64 0, .bool true, .int .i64 0, .slice c6 1 c6', .slice c7 3 c7', .slice c8 0 c8'] 26 (0, 0)) ∧ Arg W (⟨1, 3, 0, 0, true, 0, [], [0, 0, 0], [], []⟩ : Nod) b6 b7 b8 b6' b7' b8' ∧ Arg W (⟨0, 3, 0, 0, true, 0, [⟨#[97]⟩], [1, 0, 0], [], [⟨1, 0, 1, 0, 0, 0, 0, [⟨#[97]⟩]⟩, ⟨1, 0, 2, 0, 0, 0, 0, [⟨#[97]⟩]⟩]⟩ : Nod) c6 c7 c8 c6' c7' c8' ∧ Arg W (⟨1, 3, 0, 0, true, 0, [⟨#[97]⟩], [0, 0, 0], [], [⟨2, 1, 0, 0, 0, 0, 1, []⟩]⟩ : Nod) d6 d7 d8 d6' d7' d8' ∧ Kd.C k28 W s6 1 [(⟨2, 1, 0, 0, 0, 0, 1, []⟩ : S28)]) := HF5
  refine norm_ (a' := ?_) ?_ ?_
  rotate_left
  · simp only [putAll, Act.put, List.setIfInBounds_toArray, List.set_cons_zero, List.set_cons_succ]
    rfl
  refine one_ (i := 10) (N := none) #[true, true, true, true, true, true, true, true, true, true, true, false, false] rfl rfl (one_of HT_.out (by kernel_rfl)) (by decide) (fun K hK => ?_)
  have hs0 : w5.cell? ⟨gd, 0, none⟩ = some (.int .i64 0) := (blk_cell hbox 0).trans rfl
  have hf0 := blk_frozen hbox 0
  have hs1 : w5.cell? ⟨gd, 1, none⟩ = some (.int .i64 0) := (blk_cell hbox 1).trans rfl
  have hf1 := blk_frozen hbox 1
  have hs2 : w5.cell? ⟨gd, 2, none⟩ = some (.int .i64 0) := (blk_cell hbox 2).trans rfl
  have hf2 := blk_frozen hbox 2
  have hs3 : w5.cell? ⟨gd, 3, none⟩ = some (.int .i64 0) := (blk_cell hbox 3).trans rfl
  have hf3 := blk_frozen hbox 3
  have hs4 : w5.cell? ⟨gd, 4, none⟩ = some (.bool false) := (blk_cell hbox 4).trans rfl
  have hf4 := blk_frozen hbox 4
  have hs5 : w5.cell? ⟨gd, 5, none⟩ = some (.int .i64 0) := (blk_cell hbox 5).trans rfl
  have hf5 := blk_frozen hbox 5
  have hs6 : w5.cell? ⟨gd, 6, none⟩ = some (.slice none 0 0) := (blk_cell hbox 6).trans rfl
  have hf6 := blk_frozen hbox 6
  have hs7 : w5.cell? ⟨gd, 7, none⟩ = some (.slice none 0 0) := (blk_cell hbox 7).trans rfl
  have hf7 := blk_frozen hbox 7
  have hs8 : w5.cell? ⟨gd, 8, none⟩ = some (.slice none 0 0) := (blk_cell hbox 8).trans rfl
  have hf8 := blk_frozen hbox 8
  refine skip_ (w1 := ?_) (by rfl) rfl ?_ ?_
  rotate_left
  · go_simp
    rfl
  have hP := put9 hbox (.int .i64 1) (.int .i64 3) (.int .i64 0) (.int .i64 0) (.bool true) (.int .i64 0) (.slice d6 1 d6') (.slice d7 3 d7') (.slice d8 0 d8')
  refine hK.out _ _ ⟨(World.cell?_of_block (w := w5) (hP.2 _ (by show w2.heap.size ≠ gd; omega))).trans (hHeld.1), (World.cell?_of_block (w := w5) (hP.2 _ (by show w2.heap.size ≠ gd; omega))).trans (hHeld.2.1), (World.cell?_of_block (w := w5) (hP.2 _ (by show w2.heap.size ≠ gd; omega))).trans (hHeld.2.2.1), (World.cell?_of_block (w := w5) (hP.2 _ (by show w2.heap.size ≠ gd; omega))).trans (hHeld.2.2.2.1), (World.cell?_of_block (w := w5) (hP.2 _ (by show w2.heap.size ≠ gd; omega))).trans (hHeld.2.2.2.2.1), (World.cell?_of_block (w := w5) (hP.2 _ (by show w2.heap.size ≠ gd; omega))).trans (hHeld.2.2.2.2.2.1), (World.cell?_of_block (w := w5) (hP.2 _ (by show w2.heap.size ≠ gd; omega))).trans (hHeld.2.2.2.2.2.2.1), (World.cell?_of_block (w := w5) (hP.2 _ (by show w2.heap.size ≠ gd; omega))).trans (hHeld.2.2.2.2.2.2.2.1), (World.cell?_of_block (w := w5) (hP.2 _ (by show w2.heap.size ≠ gd; omega))).trans (hHeld.2.2.2.2.2.2.2.2.1), (World.cell?_of_block (w := w5) (hP.2 _ (by show ad3.block ≠ gd; omega))).trans (hHeld.2.2.2.2.2.2.2.2.2.1), (World.cell?_of_block (w := w5) (hP.2 _ (by show ad3.block ≠ gd; omega))).trans (hHeld.2.2.2.2.2.2.2.2.2.2.1), (World.cell?_of_block (w := w5) (hP.2 _ (by show ad3.block ≠ gd; omega))).trans (hHeld.2.2.2.2.2.2.2.2.2.2.2.1), (World.cell?_of_block (w := w5) (hP.2 _ (by show ad3.block ≠ gd; omega))).trans (hHeld.2.2.2.2.2.2.2.2.2.2.2.2.1), (World.cell?_of_block (w := w5) (hP.2 _ (by show ad3.block ≠ gd; omega))).trans (hHeld.2.2.2.2.2.2.2.2.2.2.2.2.2.1), (World.cell?_of_block (w := w5) (hP.2 _ (by show ad3.block ≠ gd; omega))).trans (hHeld.2.2.2.2.2.2.2.2.2.2.2.2.2.2.1), (World.cell?_of_block (w := w5) (hP.2 _ (by show ad3.block ≠ gd; omega))).trans (hHeld.2.2.2.2.2.2.2.2.2.2.2.2.2.2.2.1), (World.cell?_of_block (w := w5) (hP.2 _ (by show ad3.block ≠ gd; omega))).trans (hHeld.2.2.2.2.2.2.2.2.2.2.2.2.2.2.2.2)⟩ (fun _ => ?_)
  clear hK K
  have HS := Aside0.mk (HF5.put (W1 := (((((((((w5.setCell ⟨gd, 0, none⟩ (.int .i64 1)).setCell ⟨gd, 1, none⟩ (.int .i64 3)).setCell ⟨gd, 2, none⟩ (.int .i64 0)).setCell ⟨gd, 3, none⟩ (.int .i64 0)).setCell ⟨gd, 4, none⟩ (.bool true)).setCell ⟨gd, 5, none⟩ (.int .i64 0)).setCell ⟨gd, 6, none⟩ (.slice d6 1 d6')).setCell ⟨gd, 7, none⟩ (.slice d7 3 d7')).setCell ⟨gd, 8, none⟩ (.slice d8 0 d8'))) (by simp [World.setCell]) hP.1 hP.2)
  have HB := Aside0.mk (put9_below HB5 (g := gd) (by have := HB0.out; omega) (.int .i64 1) (.int .i64 3) (.int .i64 0) (.int .i64 0) (.bool true) (.int .i64 0) (.slice d6 1 d6') (.slice d7 3 d7') (.slice d8 0 d8'))
  clear hP HF5 HB5 hbox hHeld hz5 hgin' had' hs0 hf0 hs1 hf1 hs2 hf2 hs3 hf3 hs4 hf4 hs5 hf5 hs6 hf6 hs7 hf7 hs8 hf8
  generalize (((((((((w5.setCell ⟨gd, 0, none⟩ (.int .i64 1)).setCell ⟨gd, 1, none⟩ (.int .i64 3)).setCell ⟨gd, 2, none⟩ (.int .i64 0)).setCell ⟨gd, 3, none⟩ (.int .i64 0)).setCell ⟨gd, 4, none⟩ (.bool true)).setCell ⟨gd, 5, none⟩ (.int .i64 0)).setCell ⟨gd, 6, none⟩ (.slice d6 1 d6')).setCell ⟨gd, 7, none⟩ (.slice d7 3 d7')).setCell ⟨gd, 8, none⟩ (.slice d8 0 d8')) = wd at HS HB ⊢
  refine pure_ (i := 11) (N := some 9) (v := ?_) (a' := ?_) #[true, true, true, true, true, true, true, true, true, true, true, true, false] rfl rfl (any_of HT_.out (by kernel_rfl)) (fun _ _ _ h => h) (Or.inl ⟨by rfl, ?_⟩) ?_ ?_
  rotate_left
  · intro w'
    go_simp
    with_reducible rfl
  rotate_left
  · simp only [Act.put, List.setIfInBounds_toArray, List.set_cons_zero, List.set_cons_succ, i64_w, i32_w]
    rfl
  refine pure_ (i := 12) (N := some 10) (v := ?_) (a' := ?_) #[true, true, true, true, true, true, true, true, true, true, true, true, true] rfl rfl (any_of HT_.out (by kernel_rfl)) (fun _ _ _ h => h) (Or.inl ⟨by rfl, ?_⟩) ?_ ?_
  rotate_left
  · intro w'
    go_simp
    with_reducible rfl
  rotate_left
  · simp only [Act.put, List.setIfInBounds_toArray, List.set_cons_zero, List.set_cons_succ, i64_w, i32_w]
    rfl
  refine done_ (done_of HT_.out (by kernel_rfl)) ?_
  clear HT_ HW_
  clear HZL HB0
  have q0 : wd.cell? ⟨w3.heap.size, 0, none⟩ = some (.int .i64 0) := blk_cell HS.out.here.2.2.1 0
  have q1 : wd.cell? ⟨w3.heap.size, 1, none⟩ = some (.int .i64 3) := blk_cell HS.out.here.2.2.1 1
  have q2 : wd.cell? ⟨w3.heap.size, 2, none⟩ = some (.int .i64 0) := blk_cell HS.out.here.2.2.1 2
  have q3 : wd.cell? ⟨w3.heap.size, 3, none⟩ = some (.int .i64 0) := blk_cell HS.out.here.2.2.1 3
  have q4 : wd.cell? ⟨w3.heap.size, 4, none⟩ = some (.bool true) := blk_cell HS.out.here.2.2.1 4
  have q5 : wd.cell? ⟨w3.heap.size, 5, none⟩ = some (.int .i64 0) := blk_cell HS.out.here.2.2.1 5
  have q6 : wd.cell? ⟨w3.heap.size, 6, none⟩ = some (.slice c6 1 c6') := blk_cell HS.out.here.2.2.1 6
  have q7 : wd.cell? ⟨w3.heap.size, 7, none⟩ = some (.slice c7 3 c7') := blk_cell HS.out.here.2.2.1 7
  have q8 : wd.cell? ⟨w3.heap.size, 8, none⟩ = some (.slice c8 0 c8') := blk_cell HS.out.here.2.2.1 8
  obtain ⟨ad6, yM, ym, ze, z0, z1, z2, z3, z4, z5, z6, z7, zl, zh⟩ := at_T28 HS.out.here.2.2.2.2.2.2 0 (by decide) (by decide)
  cases ze
  simp only [show (0 : Int).toNat = 0 from rfl, Nat.zero_mul, Nat.one_mul] at z0 z1 z2 z3 z4 z5 z6 z7
  change _ = some (Value.int .i64 2) at z0
  change _ = some (Value.int .i64 1) at z1
  change _ = some (Value.int .i64 0) at z2
  change _ = some (Value.int .i64 0) at z3
  change _ = some (Value.int .i64 0) at z4
  change _ = some (Value.int .i64 0) at z5
  change _ = some (Value.int .i64 1) at z6
  change _ = some (Value.slice yM 0 ym) at z7
  rw [show ad6.add 0 = ad6 from rfl] at z0 z1 z2 z3 z4 z5 z6 z7
  have HZ := Aside0.mk (show Kd.C Kd.string wd yM 0 [] from zh)
  have HZL := Aside0.mk (show 0 ≤ ym from zl)
  clear zh zl
  replace HS := Aside0.mk (show Stays wd (fun W => W.heap[w2.heap.size]? = some (.cells #[.int .i64 1, .int .i64 3, .int .i64 0, .int .i64 0, .bool true, .int .i64 0, .slice b6 0 b6', .slice b7 3 b7', .slice b8 0 b8'] 26 (0, 0)) ∧ W.heap[gd]? = some (.cells #[.int .i64 1, .int .i64 3, .int .i64 0, .int .i64 0, .bool true, .int .i64 0, .slice d6 1 d6', .slice d7 3 d7', .slice d8 0 d8'] 26 (0, 0)) ∧ Arg W (⟨1, 3, 0, 0, true, 0, [], [0, 0, 0], [], []⟩ : Nod) b6 b7 b8 b6' b7' b8' ∧ Arg W (⟨1, 3, 0, 0, true, 0, [⟨#[97]⟩], [0, 0, 0], [], [⟨2, 1, 0, 0, 0, 0, 1, []⟩]⟩ : Nod) d6 d7 d8 d6' d7' d8' ∧ Arg W (⟨0, 3, 0, 0, true, 0, [⟨#[97]⟩], [1, 0, 0], [], [⟨1, 0, 1, 0, 0, 0, 0, [⟨#[97]⟩]⟩, ⟨1, 0, 2, 0, 0, 0, 0, [⟨#[97]⟩]⟩]⟩ : Nod) c6 c7 c8 c6' c7' c8') from HS.out.mono (fun W' h => ⟨h.2.1, h.1, h.2.2.2.1, h.2.2.2.2.2.1, h.2.2.2.2.1⟩))
  go_wp2_with (fail)
  refine start_ (n := 13) (S := fun w' => w'.cell? ⟨w3.heap.size, 0, none⟩ = some (.int .i64 0) ∧ w'.cell? ⟨w3.heap.size, 1, none⟩ = some (.int .i64 3) ∧ w'.cell? ⟨w3.heap.size, 2, none⟩ = some (.int .i64 0) ∧ w'.cell? ⟨w3.heap.size, 3, none⟩ = some (.int .i64 0) ∧ w'.cell? ⟨w3.heap.size, 4, none⟩ = some (.bool true) ∧ w'.cell? ⟨w3.heap.size, 5, none⟩ = some (.int .i64 0) ∧ w'.cell? ⟨w3.heap.size, 6, none⟩ = some (.slice c6 1 c6') ∧ w'.cell? ⟨w3.heap.size, 7, none⟩ = some (.slice c7 3 c7') ∧ w'.cell? ⟨w3.heap.size, 8, none⟩ = some (.slice c8 0 c8') ∧ w'.cell? ad6 = some (.int .i64 2) ∧ w'.cell? ⟨ad6.block, ad6.off + 1, none⟩ = some (.int .i64 1) ∧ w'.cell? ⟨ad6.block, ad6.off + 2, none⟩ = some (.int .i64 0) ∧ w'.cell? ⟨ad6.block, ad6.off + 3, none⟩ = some (.int .i64 0) ∧ w'.cell? ⟨ad6.block, ad6.off + 4, none⟩ = some (.int .i64 0) ∧ w'.cell? ⟨ad6.block, ad6.off + 5, none⟩ = some (.int .i64 0) ∧ w'.cell? ⟨ad6.block, ad6.off + 6, none⟩ = some (.int .i64 1) ∧ w'.cell? ⟨ad6.block, ad6.off + 7, none⟩ = some (.slice yM 0 ym)) (ds := []) #[false, false, false, false, false, false, false, false, false, false, false, false, false] (by kernel_rfl) rfl rfl ⟨q0, q1, q2, q3, q4, q5, q6, q7, q8, z0, z1, z2, z3, z4, z5, z6, z7⟩ (fun hHeld => ?_)
  refine with_tabW wk_tab9 wk_bits9 (fun HT_ HW_ => ?_)
  have HS' : Aside0 (Stays wd.drew (fun W => W.heap[w2.heap.size]? = some (.cells #[.int .i64 1, .int .i64 3, .int .i64 0, .int .i64 0, .bool true, .int .i64 0, .slice b6 0 b6', .slice b7 3 b7', .slice b8 0 b8'] 26 (0, 0)) ∧ W.heap[gd]? = some (.cells #[.int .i64 1, .int .i64 3, .int .i64 0, .int .i64 0, .bool true, .int .i64 0, .slice d6 1 d6', .slice d7 3 d7', .slice d8 0 d8'] 26 (0, 0)) ∧ Arg W (⟨1, 3, 0, 0, true, 0, [], [0, 0, 0], [], []⟩ : Nod) b6 b7 b8 b6' b7' b8' ∧ Arg W (⟨1, 3, 0, 0, true, 0, [⟨#[97]⟩], [0, 0, 0], [], [⟨2, 1, 0, 0, 0, 0, 1, []⟩]⟩ : Nod) d6 d7 d8 d6' d7' d8' ∧ Arg W (⟨0, 3, 0, 0, true, 0, [⟨#[97]⟩], [1, 0, 0], [], [⟨1, 0, 1, 0, 0, 0, 0, [⟨#[97]⟩]⟩, ⟨1, 0, 2, 0, 0, 0, 0, [⟨#[97]⟩]⟩]⟩ : Nod) c6 c7 c8 c6' c7' c8')) := ⟨HS.out⟩
  have HB' : Aside0 (Below w.heap.size w wd.drew) := ⟨below_drew1 HB.out⟩
  have HZ' : Aside0 (Kd.C Kd.string wd.drew yM 0 []) := ⟨HZ.out⟩
  have hgin' : w3.heap.size < wd.drew.heap.size := World.block_lt_of_cell? _ _ hHeld.1
  have had' : ad6.block < wd.drew.heap.size := World.block_lt_of_cell? _ _ hHeld.2.2.2.2.2.2.2.2.2.1
  clear HS HB HZ q0 q1 q2 q3 q4 q5 q6 q7 q8 z0 z1 z2 z3 z4 z5 z6 z7
  generalize wd.drew = w0_9 at HS' HB' HZ' hgin' had' hHeld ⊢
  have HB0 := Aside0.mk (below_size HB'.out)
  refine pure_ (i := 1) (N := some 95) (v := ?_) (a' := ?_) #[false, true, false, false, false, false, false, false, false, false, false, false, false] rfl rfl (any_of HT_.out (by kernel_rfl)) (fun _ _ _ h => h) (Or.inl ⟨by rfl, ?_⟩) ?_ ?_
  rotate_left
  · intro w'
    go_simp
    with_reducible rfl
  rotate_left
  · simp only [Act.put, List.setIfInBounds_toArray, List.set_cons_zero, List.set_cons_succ, i64_w, i32_w]
    rfl
  refine pure_ (i := 2) (N := some 96) (v := ?_) (a' := ?_) #[false, true, true, false, false, false, false, false, false, false, false, false, false] rfl rfl (any_of HT_.out (by kernel_rfl)) (fun _ _ _ h => h) (Or.inl ⟨by rfl, ?_⟩) ?_ ?_
  rotate_left
  · intro w'
    go_simp
    with_reducible rfl
  rotate_left
  · simp only [Act.put, List.setIfInBounds_toArray, List.set_cons_zero, List.set_cons_succ, i64_w, i32_w]
    rfl
  refine take_ (i := 0) (N := some 94) (v := ?_) (a' := ?_) #[true, true, true, false, false, false, false, false, false, false, false, false, false] rfl rfl (take_ofW HT_.out HW_.out (by kernel_rfl)) (fun _ _ _ h => h) (Or.inl ⟨by rfl, ?_⟩) hHeld ?_ ?_
  rotate_left
  · rintro w' ⟨s0, s1, s2, s3, s4, s5, s6, s7, s8, s9, s10, s11, s12, s13, s14, s15, s16⟩
    go_simp
    with_reducible rfl
  rotate_left
  · simp only [Act.put, List.setIfInBounds_toArray, List.set_cons_zero, List.set_cons_succ, i64_w, i32_w]
    rfl
  refine take_ (i := 3) (N := some 97) (v := ?_) (a' := ?_) #[true, true, true, true, false, false, false, false, false, false, false, false, false] rfl rfl (take_ofW HT_.out HW_.out (by kernel_rfl)) (fun _ _ _ h => h) (Or.inl ⟨by rfl, ?_⟩) hHeld ?_ ?_
  rotate_left
  · rintro w' ⟨s0, s1, s2, s3, s4, s5, s6, s7, s8, s9, s10, s11, s12, s13, s14, s15, s16⟩
    go_simp
    with_reducible rfl
  rotate_left
  · simp only [Act.put, List.setIfInBounds_toArray, List.set_cons_zero, List.set_cons_succ, i64_w, i32_w]
    rfl
  refine join_ (σ := Option Addr × Nat × Option Addr × Nat × Option Addr × Nat × Option Addr × Nat × Nat) 3 #[true, true, true, true, true, true, true, true, true, true, false, false, false] (fun s_ => [(98, .tuple #[.agg #[.int .i64 0, .int .i64 3, .int .i64 0, .int .i64 0, .bool true, .int .i64 1, .slice s_.1 1 s_.2.1, .slice s_.2.2.1 3 s_.2.2.2.1, .slice s_.2.2.2.2.1 0 s_.2.2.2.2.2.1], .slice s_.2.2.2.2.2.2.1 2 s_.2.2.2.2.2.2.2.1, .int .i64 0]), (11, .pointer (some ⟨s_.2.2.2.2.2.2.2.2, 0, none⟩)), (93, .tuple #[.agg #[.int .i64 0, .int .i64 3, .int .i64 0, .int .i64 0, .bool true, .int .i64 1, .slice s_.1 1 s_.2.1, .slice s_.2.2.1 3 s_.2.2.2.1, .slice s_.2.2.2.2.1 0 s_.2.2.2.2.2.1], .slice s_.2.2.2.2.2.2.1 2 s_.2.2.2.2.2.2.2.1, .int .i64 0]), (99, .agg #[.int .i64 0, .int .i64 3, .int .i64 0, .int .i64 0, .bool true, .int .i64 1, .slice s_.1 1 s_.2.1, .slice s_.2.2.1 3 s_.2.2.2.1, .slice s_.2.2.2.2.1 0 s_.2.2.2.2.2.1]), (100, .slice s_.2.2.2.2.2.2.1 2 s_.2.2.2.2.2.2.2.1), (101, .int .i64 0)]) (fun s_ w' => (w'.cell? ⟨w3.heap.size, 0, none⟩ = some (.int .i64 0) ∧ w'.cell? ⟨w3.heap.size, 1, none⟩ = some (.int .i64 3) ∧ w'.cell? ⟨w3.heap.size, 2, none⟩ = some (.int .i64 0) ∧ w'.cell? ⟨w3.heap.size, 3, none⟩ = some (.int .i64 0) ∧ w'.cell? ⟨w3.heap.size, 4, none⟩ = some (.bool true) ∧ w'.cell? ⟨w3.heap.size, 5, none⟩ = some (.int .i64 0) ∧ w'.cell? ⟨w3.heap.size, 6, none⟩ = some (.slice c6 1 c6') ∧ w'.cell? ⟨w3.heap.size, 7, none⟩ = some (.slice c7 3 c7') ∧ w'.cell? ⟨w3.heap.size, 8, none⟩ = some (.slice c8 0 c8') ∧ w'.cell? ad6 = some (.int .i64 2) ∧ w'.cell? ⟨ad6.block, ad6.off + 1, none⟩ = some (.int .i64 1) ∧ w'.cell? ⟨ad6.block, ad6.off + 2, none⟩ = some (.int .i64 0) ∧ w'.cell? ⟨ad6.block, ad6.off + 3, none⟩ = some (.int .i64 0) ∧ w'.cell? ⟨ad6.block, ad6.off + 4, none⟩ = some (.int .i64 0) ∧ w'.cell? ⟨ad6.block, ad6.off + 5, none⟩ = some (.int .i64 0) ∧ w'.cell? ⟨ad6.block, ad6.off + 6, none⟩ = some (.int .i64 1) ∧ w'.cell? ⟨ad6.block, ad6.off + 7, none⟩ = some (.slice yM 0 ym)) ∧ (w'.heap[s_.2.2.2.2.2.2.2.2]? = some (.cells #[.int .i64 0, .int .i64 0, .int .i64 0, .int .i64 0, .bool false, .int .i64 0, .slice none 0 0, .slice none 0 0, .slice none 0 0] 26 (0, 0))) ∧ (StaysBut w' s_.2.2.2.2.2.2.2.2 (fun W => W.heap[w2.heap.size]? = some (.cells #[.int .i64 1, .int .i64 3, .int .i64 0, .int .i64 0, .bool true, .int .i64 0, .slice b6 0 b6', .slice b7 3 b7', .slice b8 0 b8'] 26 (0, 0)) ∧ W.heap[gd]? = some (.cells #[.int .i64 1, .int .i64 3, .int .i64 0, .int .i64 0, .bool true, .int .i64 0, .slice d6 1 d6', .slice d7 3 d7', .slice d8 0 d8'] 26 (0, 0)) ∧ Arg W (⟨1, 3, 0, 0, true, 0, [], [0, 0, 0], [], []⟩ : Nod) b6 b7 b8 b6' b7' b8' ∧ Arg W (⟨1, 3, 0, 0, true, 0, [⟨#[97]⟩], [0, 0, 0], [], [⟨2, 1, 0, 0, 0, 0, 1, []⟩]⟩ : Nod) d6 d7 d8 d6' d7' d8' ∧ Arg W (⟨0, 3, 0, 0, true, 0, [⟨#[97]⟩], [1, 0, 0], [], [⟨1, 0, 1, 0, 0, 0, 0, [⟨#[97]⟩]⟩, ⟨1, 0, 2, 0, 0, 0, 0, [⟨#[97]⟩]⟩]⟩ : Nod) c6 c7 c8 c6' c7' c8' ∧ Arg W (⟨0, 3, 0, 0, true, 1, [⟨#[97]⟩], [1, 1, 0], [], [⟨1, 0, 1, 0, 0, 1, 0, [⟨#[97]⟩]⟩, ⟨1, 0, 2, 0, 0, 1, 0, [⟨#[97]⟩]⟩]⟩ : Nod) s_.1 s_.2.2.1 s_.2.2.2.2.1 s_.2.1 s_.2.2.2.1 s_.2.2.2.2.2.1 ∧ Kd.C k28 W s_.2.2.2.2.2.2.1 2 [(⟨1, 0, 1, 0, 0, 1, 0, [⟨#[97]⟩]⟩ : S28), ⟨1, 0, 2, 0, 0, 1, 0, [⟨#[97]⟩]⟩])) ∧ (w0_9.heap.size ≤ s_.2.2.2.2.2.2.2.2) ∧ (Below w.heap.size w w')) ?_ ?_
  rotate_left
  · intro hCont
    refine two_ (i := 4) (j := 9) (Ni := some 98) (Nj := some 11) #[true, true, true, true, true, false, false, false, false, false, false, false, false] #[true, true, true, true, false, false, false, false, false, true, false, false, false] rfl rfl rfl rfl (two_of HT_.out (by kernel_rfl)) (by decide) (by decide) (fun K hK => ?_) (fun K hK => ?_)
    · skip
      refine goes_ Try.func8 (by kernel_rfl) rfl #[.agg #[.int .i64 0, .int .i64 3, .int .i64 0, .int .i64 0, .bool true, .int .i64 0, .slice c6 1 c6', .slice c7 3 c7', .slice c8 0 c8'], .agg #[.int .i64 2, .int .i64 1, .int .i64 0, .int .i64 0, .int .i64 0, .int .i64 0, .int .i64 1, .slice yM 0 ym]] (by rfl) rfl rfl (by (try simp only [List.map_toArray, List.map_cons, List.map_nil]); first | done | rfl) ?_
      with_reducible refine (w_handle2 _ _ _ _ _ _ _ yM ym (HS'.out.here).2.2.2.2 HZ'.out HZL.out).mono ?_
      rintro e w4 ⟨x6, x6', x7, x7', x8, x8', u6, u6', rfl, hA, h9, hC, hb, hKK⟩
      refine ⟨_, rfl, ?_⟩
      have hS4 : w4.cell? ⟨w3.heap.size, 0, none⟩ = some (.int .i64 0) ∧ w4.cell? ⟨w3.heap.size, 1, none⟩ = some (.int .i64 3) ∧ w4.cell? ⟨w3.heap.size, 2, none⟩ = some (.int .i64 0) ∧ w4.cell? ⟨w3.heap.size, 3, none⟩ = some (.int .i64 0) ∧ w4.cell? ⟨w3.heap.size, 4, none⟩ = some (.bool true) ∧ w4.cell? ⟨w3.heap.size, 5, none⟩ = some (.int .i64 0) ∧ w4.cell? ⟨w3.heap.size, 6, none⟩ = some (.slice c6 1 c6') ∧ w4.cell? ⟨w3.heap.size, 7, none⟩ = some (.slice c7 3 c7') ∧ w4.cell? ⟨w3.heap.size, 8, none⟩ = some (.slice c8 0 c8') ∧ w4.cell? ad6 = some (.int .i64 2) ∧ w4.cell? ⟨ad6.block, ad6.off + 1, none⟩ = some (.int .i64 1) ∧ w4.cell? ⟨ad6.block, ad6.off + 2, none⟩ = some (.int .i64 0) ∧ w4.cell? ⟨ad6.block, ad6.off + 3, none⟩ = some (.int .i64 0) ∧ w4.cell? ⟨ad6.block, ad6.off + 4, none⟩ = some (.int .i64 0) ∧ w4.cell? ⟨ad6.block, ad6.off + 5, none⟩ = some (.int .i64 0) ∧ w4.cell? ⟨ad6.block, ad6.off + 6, none⟩ = some (.int .i64 1) ∧ w4.cell? ⟨ad6.block, ad6.off + 7, none⟩ = some (.slice yM 0 ym) := ⟨(hb.cell (World.block_lt_of_cell? _ _ (hHeld.1))).trans (hHeld.1), (hb.cell (World.block_lt_of_cell? _ _ (hHeld.2.1))).trans (hHeld.2.1), (hb.cell (World.block_lt_of_cell? _ _ (hHeld.2.2.1))).trans (hHeld.2.2.1), (hb.cell (World.block_lt_of_cell? _ _ (hHeld.2.2.2.1))).trans (hHeld.2.2.2.1), (hb.cell (World.block_lt_of_cell? _ _ (hHeld.2.2.2.2.1))).trans (hHeld.2.2.2.2.1), (hb.cell (World.block_lt_of_cell? _ _ (hHeld.2.2.2.2.2.1))).trans (hHeld.2.2.2.2.2.1), (hb.cell (World.block_lt_of_cell? _ _ (hHeld.2.2.2.2.2.2.1))).trans (hHeld.2.2.2.2.2.2.1), (hb.cell (World.block_lt_of_cell? _ _ (hHeld.2.2.2.2.2.2.2.1))).trans (hHeld.2.2.2.2.2.2.2.1), (hb.cell (World.block_lt_of_cell? _ _ (hHeld.2.2.2.2.2.2.2.2.1))).trans (hHeld.2.2.2.2.2.2.2.2.1), (hb.cell (World.block_lt_of_cell? _ _ (hHeld.2.2.2.2.2.2.2.2.2.1))).trans (hHeld.2.2.2.2.2.2.2.2.2.1), (hb.cell (World.block_lt_of_cell? _ _ (hHeld.2.2.2.2.2.2.2.2.2.2.1))).trans (hHeld.2.2.2.2.2.2.2.2.2.2.1), (hb.cell (World.block_lt_of_cell? _ _ (hHeld.2.2.2.2.2.2.2.2.2.2.2.1))).trans (hHeld.2.2.2.2.2.2.2.2.2.2.2.1), (hb.cell (World.block_lt_of_cell? _ _ (hHeld.2.2.2.2.2.2.2.2.2.2.2.2.1))).trans (hHeld.2.2.2.2.2.2.2.2.2.2.2.2.1), (hb.cell (World.block_lt_of_cell? _ _ (hHeld.2.2.2.2.2.2.2.2.2.2.2.2.2.1))).trans (hHeld.2.2.2.2.2.2.2.2.2.2.2.2.2.1), (hb.cell (World.block_lt_of_cell? _ _ (hHeld.2.2.2.2.2.2.2.2.2.2.2.2.2.2.1))).trans (hHeld.2.2.2.2.2.2.2.2.2.2.2.2.2.2.1), (hb.cell (World.block_lt_of_cell? _ _ (hHeld.2.2.2.2.2.2.2.2.2.2.2.2.2.2.2.1))).trans (hHeld.2.2.2.2.2.2.2.2.2.2.2.2.2.2.2.1), (hb.cell (World.block_lt_of_cell? _ _ (hHeld.2.2.2.2.2.2.2.2.2.2.2.2.2.2.2.2))).trans (hHeld.2.2.2.2.2.2.2.2.2.2.2.2.2.2.2.2)⟩
      have HS4 := Aside0.mk ((HS'.out.below hb).and (Stays.of hKK))
      have HB4 := Aside0.mk (below_step HB'.out hb)
      have hz4 := hb.size
      clear hA h9 hC hb hKK hHeld
      refine hK.out _ _ hS4 (fun hHeld => ?_)
      clear hK K hS4
      refine norm_ (a' := ?_) ?_ ?_
      rotate_left
      · show Act.put _ (some 98) _ = _
        simp only [Act.put, List.setIfInBounds_toArray, List.set_cons_zero, List.set_cons_succ, i64_w, i32_w]
        rfl
      refine pure_ (i := 5) (N := some 93) (v := ?_) (a' := ?_) #[true, true, true, true, true, true, false, false, false, false, false, false, false] rfl rfl (any_of HT_.out (by kernel_rfl)) (fun _ _ _ h => h) (Or.inl ⟨by rfl, ?_⟩) ?_ ?_
      rotate_left
      · intro w'
        go_simp
        with_reducible rfl
      rotate_left
      · simp only [Act.put, List.setIfInBounds_toArray, List.set_cons_zero, List.set_cons_succ, i64_w, i32_w]
        rfl
      refine pure_ (i := 6) (N := some 99) (v := ?_) (a' := ?_) #[true, true, true, true, true, true, true, false, false, false, false, false, false] rfl rfl (any_of HT_.out (by kernel_rfl)) (fun _ _ _ h => h) (Or.inl ⟨by rfl, ?_⟩) ?_ ?_
      rotate_left
      · intro w'
        go_simp
        with_reducible rfl
      rotate_left
      · simp only [Act.put, List.setIfInBounds_toArray, List.set_cons_zero, List.set_cons_succ, i64_w, i32_w]
        rfl
      refine pure_ (i := 7) (N := some 100) (v := ?_) (a' := ?_) #[true, true, true, true, true, true, true, true, false, false, false, false, false] rfl rfl (any_of HT_.out (by kernel_rfl)) (fun _ _ _ h => h) (Or.inl ⟨by rfl, ?_⟩) ?_ ?_
      rotate_left
      · intro w'
        go_simp
        with_reducible rfl
      rotate_left
      · simp only [Act.put, List.setIfInBounds_toArray, List.set_cons_zero, List.set_cons_succ, i64_w, i32_w]
        rfl
      refine pure_ (i := 8) (N := some 101) (v := ?_) (a' := ?_) #[true, true, true, true, true, true, true, true, true, false, false, false, false] rfl rfl (any_of HT_.out (by kernel_rfl)) (fun _ _ _ h => h) (Or.inl ⟨by rfl, ?_⟩) ?_ ?_
      rotate_left
      · intro w'
        go_simp
        with_reducible rfl
      rotate_left
      · simp only [Act.put, List.setIfInBounds_toArray, List.set_cons_zero, List.set_cons_succ, i64_w, i32_w]
        rfl
      refine one_ (i := 9) (N := some 11) #[true, true, true, true, true, true, true, true, true, true, false, false, false] rfl rfl (one_of HT_.out (by kernel_rfl)) (by decide) (fun K hK => ?_)
      refine box_step ?hg (N := 11) ?hd (cs := #[.int .i64 0, .int .i64 0, .int .i64 0, .int .i64 0, .bool false, .int .i64 0, .slice none 0 0, .slice none 0 0, .slice none 0 0]) (t := 26) ?hr ?_; (case hd => rfl); (case hg => rfl); (case hr => first | (go_simp; done) | (go_simp; rfl))
      intro gx hg w5 hbox' hb
      have hS5 : w5.cell? ⟨w3.heap.size, 0, none⟩ = some (.int .i64 0) ∧ w5.cell? ⟨w3.heap.size, 1, none⟩ = some (.int .i64 3) ∧ w5.cell? ⟨w3.heap.size, 2, none⟩ = some (.int .i64 0) ∧ w5.cell? ⟨w3.heap.size, 3, none⟩ = some (.int .i64 0) ∧ w5.cell? ⟨w3.heap.size, 4, none⟩ = some (.bool true) ∧ w5.cell? ⟨w3.heap.size, 5, none⟩ = some (.int .i64 0) ∧ w5.cell? ⟨w3.heap.size, 6, none⟩ = some (.slice c6 1 c6') ∧ w5.cell? ⟨w3.heap.size, 7, none⟩ = some (.slice c7 3 c7') ∧ w5.cell? ⟨w3.heap.size, 8, none⟩ = some (.slice c8 0 c8') ∧ w5.cell? ad6 = some (.int .i64 2) ∧ w5.cell? ⟨ad6.block, ad6.off + 1, none⟩ = some (.int .i64 1) ∧ w5.cell? ⟨ad6.block, ad6.off + 2, none⟩ = some (.int .i64 0) ∧ w5.cell? ⟨ad6.block, ad6.off + 3, none⟩ = some (.int .i64 0) ∧ w5.cell? ⟨ad6.block, ad6.off + 4, none⟩ = some (.int .i64 0) ∧ w5.cell? ⟨ad6.block, ad6.off + 5, none⟩ = some (.int .i64 0) ∧ w5.cell? ⟨ad6.block, ad6.off + 6, none⟩ = some (.int .i64 1) ∧ w5.cell? ⟨ad6.block, ad6.off + 7, none⟩ = some (.slice yM 0 ym) := ⟨(hb.cell (World.block_lt_of_cell? _ _ (hHeld.1))).trans (hHeld.1), (hb.cell (World.block_lt_of_cell? _ _ (hHeld.2.1))).trans (hHeld.2.1), (hb.cell (World.block_lt_of_cell? _ _ (hHeld.2.2.1))).trans (hHeld.2.2.1), (hb.cell (World.block_lt_of_cell? _ _ (hHeld.2.2.2.1))).trans (hHeld.2.2.2.1), (hb.cell (World.block_lt_of_cell? _ _ (hHeld.2.2.2.2.1))).trans (hHeld.2.2.2.2.1), (hb.cell (World.block_lt_of_cell? _ _ (hHeld.2.2.2.2.2.1))).trans (hHeld.2.2.2.2.2.1), (hb.cell (World.block_lt_of_cell? _ _ (hHeld.2.2.2.2.2.2.1))).trans (hHeld.2.2.2.2.2.2.1), (hb.cell (World.block_lt_of_cell? _ _ (hHeld.2.2.2.2.2.2.2.1))).trans (hHeld.2.2.2.2.2.2.2.1), (hb.cell (World.block_lt_of_cell? _ _ (hHeld.2.2.2.2.2.2.2.2.1))).trans (hHeld.2.2.2.2.2.2.2.2.1), (hb.cell (World.block_lt_of_cell? _ _ (hHeld.2.2.2.2.2.2.2.2.2.1))).trans (hHeld.2.2.2.2.2.2.2.2.2.1), (hb.cell (World.block_lt_of_cell? _ _ (hHeld.2.2.2.2.2.2.2.2.2.2.1))).trans (hHeld.2.2.2.2.2.2.2.2.2.2.1), (hb.cell (World.block_lt_of_cell? _ _ (hHeld.2.2.2.2.2.2.2.2.2.2.2.1))).trans (hHeld.2.2.2.2.2.2.2.2.2.2.2.1), (hb.cell (World.block_lt_of_cell? _ _ (hHeld.2.2.2.2.2.2.2.2.2.2.2.2.1))).trans (hHeld.2.2.2.2.2.2.2.2.2.2.2.2.1), (hb.cell (World.block_lt_of_cell? _ _ (hHeld.2.2.2.2.2.2.2.2.2.2.2.2.2.1))).trans (hHeld.2.2.2.2.2.2.2.2.2.2.2.2.2.1), (hb.cell (World.block_lt_of_cell? _ _ (hHeld.2.2.2.2.2.2.2.2.2.2.2.2.2.2.1))).trans (hHeld.2.2.2.2.2.2.2.2.2.2.2.2.2.2.1), (hb.cell (World.block_lt_of_cell? _ _ (hHeld.2.2.2.2.2.2.2.2.2.2.2.2.2.2.2.1))).trans (hHeld.2.2.2.2.2.2.2.2.2.2.2.2.2.2.2.1), (hb.cell (World.block_lt_of_cell? _ _ (hHeld.2.2.2.2.2.2.2.2.2.2.2.2.2.2.2.2))).trans (hHeld.2.2.2.2.2.2.2.2.2.2.2.2.2.2.2.2)⟩
      have HF5 := HS4.out.but_new hg hb
      have HB5 := below_step HB4.out hb
      have hz5 : w0_9.heap.size ≤ gx := by rw [hg]; exact hz4
      refine hK.out _ _ hS5 (fun hHeld => ?_)
      clear hK K hS5
      refine norm_ (a' := ?_) ?_ ?_
      rotate_left
      · show Act.put _ (some 11) _ = _
        simp only [Act.put, List.setIfInBounds_toArray, List.set_cons_zero, List.set_cons_succ, i64_w, i32_w]
        rfl
      exact norm_ (by simp only [putAll, Act.put, List.setIfInBounds_toArray, List.set_cons_zero, List.set_cons_succ]) (hCont (x6, x6', x7, x7', x8, x8', u6, u6', gx) _ ⟨hHeld, hbox', HF5.mono (fun W' h => ⟨h.1.1, h.1.2.1, h.1.2.2.1, h.1.2.2.2.1, h.1.2.2.2.2, h.2.1, h.2.2⟩), hz5, HB5⟩)
    · skip
      refine box_step ?hg (N := 11) ?hd (cs := #[.int .i64 0, .int .i64 0, .int .i64 0, .int .i64 0, .bool false, .int .i64 0, .slice none 0 0, .slice none 0 0, .slice none 0 0]) (t := 26) ?hr ?_; (case hd => rfl); (case hg => rfl); (case hr => first | (go_simp; done) | (go_simp; rfl))
      intro gx hg w4 hbox hb4
      have hS4 : w4.cell? ⟨w3.heap.size, 0, none⟩ = some (.int .i64 0) ∧ w4.cell? ⟨w3.heap.size, 1, none⟩ = some (.int .i64 3) ∧ w4.cell? ⟨w3.heap.size, 2, none⟩ = some (.int .i64 0) ∧ w4.cell? ⟨w3.heap.size, 3, none⟩ = some (.int .i64 0) ∧ w4.cell? ⟨w3.heap.size, 4, none⟩ = some (.bool true) ∧ w4.cell? ⟨w3.heap.size, 5, none⟩ = some (.int .i64 0) ∧ w4.cell? ⟨w3.heap.size, 6, none⟩ = some (.slice c6 1 c6') ∧ w4.cell? ⟨w3.heap.size, 7, none⟩ = some (.slice c7 3 c7') ∧ w4.cell? ⟨w3.heap.size, 8, none⟩ = some (.slice c8 0 c8') ∧ w4.cell? ad6 = some (.int .i64 2) ∧ w4.cell? ⟨ad6.block, ad6.off + 1, none⟩ = some (.int .i64 1) ∧ w4.cell? ⟨ad6.block, ad6.off + 2, none⟩ = some (.int .i64 0) ∧ w4.cell? ⟨ad6.block, ad6.off + 3, none⟩ = some (.int .i64 0) ∧ w4.cell? ⟨ad6.block, ad6.off + 4, none⟩ = some (.int .i64 0) ∧ w4.cell? ⟨ad6.block, ad6.off + 5, none⟩ = some (.int .i64 0) ∧ w4.cell? ⟨ad6.block, ad6.off + 6, none⟩ = some (.int .i64 1) ∧ w4.cell? ⟨ad6.block, ad6.off + 7, none⟩ = some (.slice yM 0 ym) := ⟨(hb4.cell (World.block_lt_of_cell? _ _ (hHeld.1))).trans (hHeld.1), (hb4.cell (World.block_lt_of_cell? _ _ (hHeld.2.1))).trans (hHeld.2.1), (hb4.cell (World.block_lt_of_cell? _ _ (hHeld.2.2.1))).trans (hHeld.2.2.1), (hb4.cell (World.block_lt_of_cell? _ _ (hHeld.2.2.2.1))).trans (hHeld.2.2.2.1), (hb4.cell (World.block_lt_of_cell? _ _ (hHeld.2.2.2.2.1))).trans (hHeld.2.2.2.2.1), (hb4.cell (World.block_lt_of_cell? _ _ (hHeld.2.2.2.2.2.1))).trans (hHeld.2.2.2.2.2.1), (hb4.cell (World.block_lt_of_cell? _ _ (hHeld.2.2.2.2.2.2.1))).trans (hHeld.2.2.2.2.2.2.1), (hb4.cell (World.block_lt_of_cell? _ _ (hHeld.2.2.2.2.2.2.2.1))).trans (hHeld.2.2.2.2.2.2.2.1), (hb4.cell (World.block_lt_of_cell? _ _ (hHeld.2.2.2.2.2.2.2.2.1))).trans (hHeld.2.2.2.2.2.2.2.2.1), (hb4.cell (World.block_lt_of_cell? _ _ (hHeld.2.2.2.2.2.2.2.2.2.1))).trans (hHeld.2.2.2.2.2.2.2.2.2.1), (hb4.cell (World.block_lt_of_cell? _ _ (hHeld.2.2.2.2.2.2.2.2.2.2.1))).trans (hHeld.2.2.2.2.2.2.2.2.2.2.1), (hb4.cell (World.block_lt_of_cell? _ _ (hHeld.2.2.2.2.2.2.2.2.2.2.2.1))).trans (hHeld.2.2.2.2.2.2.2.2.2.2.2.1), (hb4.cell (World.block_lt_of_cell? _ _ (hHeld.2.2.2.2.2.2.2.2.2.2.2.2.1))).trans (hHeld.2.2.2.2.2.2.2.2.2.2.2.2.1), (hb4.cell (World.block_lt_of_cell? _ _ (hHeld.2.2.2.2.2.2.2.2.2.2.2.2.2.1))).trans (hHeld.2.2.2.2.2.2.2.2.2.2.2.2.2.1), (hb4.cell (World.block_lt_of_cell? _ _ (hHeld.2.2.2.2.2.2.2.2.2.2.2.2.2.2.1))).trans (hHeld.2.2.2.2.2.2.2.2.2.2.2.2.2.2.1), (hb4.cell (World.block_lt_of_cell? _ _ (hHeld.2.2.2.2.2.2.2.2.2.2.2.2.2.2.2.1))).trans (hHeld.2.2.2.2.2.2.2.2.2.2.2.2.2.2.2.1), (hb4.cell (World.block_lt_of_cell? _ _ (hHeld.2.2.2.2.2.2.2.2.2.2.2.2.2.2.2.2))).trans (hHeld.2.2.2.2.2.2.2.2.2.2.2.2.2.2.2.2)⟩
      have HF4 := HS'.out.but_new hg hb4
      have HB4 := Aside0.mk (below_step HB'.out hb4)
      have hz5 : w0_9.heap.size ≤ gx := Nat.le_of_eq hg.symm
      have hz6 : gx < w4.heap.size := blk_lt hbox
      refine hK.out _ _ hS4 (fun hHeld => ?_)
      clear hK K hS4
      refine norm_ (a' := ?_) ?_ ?_
      rotate_left
      · show Act.put _ (some 11) _ = _
        simp only [Act.put, List.setIfInBounds_toArray, List.set_cons_zero, List.set_cons_succ, i64_w, i32_w]
        rfl
      refine one_ (i := 4) (N := some 98) #[true, true, true, true, true, false, false, false, false, true, false, false, false] rfl rfl (one_of HT_.out (by kernel_rfl)) (by decide) (fun K hK => ?_)
      refine goes_ Try.func8 (by kernel_rfl) rfl #[.agg #[.int .i64 0, .int .i64 3, .int .i64 0, .int .i64 0, .bool true, .int .i64 0, .slice c6 1 c6', .slice c7 3 c7', .slice c8 0 c8'], .agg #[.int .i64 2, .int .i64 1, .int .i64 0, .int .i64 0, .int .i64 0, .int .i64 0, .int .i64 1, .slice yM 0 ym]] (by rfl) rfl rfl (by (try simp only [List.map_toArray, List.map_cons, List.map_nil]); first | done | rfl) ?_
      with_reducible refine (w_handle2 _ _ _ _ _ _ _ yM ym (HF4.here).2.2.2.2 (Kd.C_below HZ'.out hb4) HZL.out).mono ?_
      rintro e w5 ⟨x6, x6', x7, x7', x8, x8', u6, u6', rfl, hA, h9, hC, hb, hKK⟩
      refine ⟨_, rfl, ?_⟩
      have hS5 : w5.cell? ⟨w3.heap.size, 0, none⟩ = some (.int .i64 0) ∧ w5.cell? ⟨w3.heap.size, 1, none⟩ = some (.int .i64 3) ∧ w5.cell? ⟨w3.heap.size, 2, none⟩ = some (.int .i64 0) ∧ w5.cell? ⟨w3.heap.size, 3, none⟩ = some (.int .i64 0) ∧ w5.cell? ⟨w3.heap.size, 4, none⟩ = some (.bool true) ∧ w5.cell? ⟨w3.heap.size, 5, none⟩ = some (.int .i64 0) ∧ w5.cell? ⟨w3.heap.size, 6, none⟩ = some (.slice c6 1 c6') ∧ w5.cell? ⟨w3.heap.size, 7, none⟩ = some (.slice c7 3 c7') ∧ w5.cell? ⟨w3.heap.size, 8, none⟩ = some (.slice c8 0 c8') ∧ w5.cell? ad6 = some (.int .i64 2) ∧ w5.cell? ⟨ad6.block, ad6.off + 1, none⟩ = some (.int .i64 1) ∧ w5.cell? ⟨ad6.block, ad6.off + 2, none⟩ = some (.int .i64 0) ∧ w5.cell? ⟨ad6.block, ad6.off + 3, none⟩ = some (.int .i64 0) ∧ w5.cell? ⟨ad6.block, ad6.off + 4, none⟩ = some (.int .i64 0) ∧ w5.cell? ⟨ad6.block, ad6.off + 5, none⟩ = some (.int .i64 0) ∧ w5.cell? ⟨ad6.block, ad6.off + 6, none⟩ = some (.int .i64 1) ∧ w5.cell? ⟨ad6.block, ad6.off + 7, none⟩ = some (.slice yM 0 ym) := ⟨(hb.cell (World.block_lt_of_cell? _ _ (hHeld.1))).trans (hHeld.1), (hb.cell (World.block_lt_of_cell? _ _ (hHeld.2.1))).trans (hHeld.2.1), (hb.cell (World.block_lt_of_cell? _ _ (hHeld.2.2.1))).trans (hHeld.2.2.1), (hb.cell (World.block_lt_of_cell? _ _ (hHeld.2.2.2.1))).trans (hHeld.2.2.2.1), (hb.cell (World.block_lt_of_cell? _ _ (hHeld.2.2.2.2.1))).trans (hHeld.2.2.2.2.1), (hb.cell (World.block_lt_of_cell? _ _ (hHeld.2.2.2.2.2.1))).trans (hHeld.2.2.2.2.2.1), (hb.cell (World.block_lt_of_cell? _ _ (hHeld.2.2.2.2.2.2.1))).trans (hHeld.2.2.2.2.2.2.1), (hb.cell (World.block_lt_of_cell? _ _ (hHeld.2.2.2.2.2.2.2.1))).trans (hHeld.2.2.2.2.2.2.2.1), (hb.cell (World.block_lt_of_cell? _ _ (hHeld.2.2.2.2.2.2.2.2.1))).trans (hHeld.2.2.2.2.2.2.2.2.1), (hb.cell (World.block_lt_of_cell? _ _ (hHeld.2.2.2.2.2.2.2.2.2.1))).trans (hHeld.2.2.2.2.2.2.2.2.2.1), (hb.cell (World.block_lt_of_cell? _ _ (hHeld.2.2.2.2.2.2.2.2.2.2.1))).trans (hHeld.2.2.2.2.2.2.2.2.2.2.1), (hb.cell (World.block_lt_of_cell? _ _ (hHeld.2.2.2.2.2.2.2.2.2.2.2.1))).trans (hHeld.2.2.2.2.2.2.2.2.2.2.2.1), (hb.cell (World.block_lt_of_cell? _ _ (hHeld.2.2.2.2.2.2.2.2.2.2.2.2.1))).trans (hHeld.2.2.2.2.2.2.2.2.2.2.2.2.1), (hb.cell (World.block_lt_of_cell? _ _ (hHeld.2.2.2.2.2.2.2.2.2.2.2.2.2.1))).trans (hHeld.2.2.2.2.2.2.2.2.2.2.2.2.2.1), (hb.cell (World.block_lt_of_cell? _ _ (hHeld.2.2.2.2.2.2.2.2.2.2.2.2.2.2.1))).trans (hHeld.2.2.2.2.2.2.2.2.2.2.2.2.2.2.1), (hb.cell (World.block_lt_of_cell? _ _ (hHeld.2.2.2.2.2.2.2.2.2.2.2.2.2.2.2.1))).trans (hHeld.2.2.2.2.2.2.2.2.2.2.2.2.2.2.2.1), (hb.cell (World.block_lt_of_cell? _ _ (hHeld.2.2.2.2.2.2.2.2.2.2.2.2.2.2.2.2))).trans (hHeld.2.2.2.2.2.2.2.2.2.2.2.2.2.2.2.2)⟩
      have HF5 := (HF4.below hb).and (StaysBut.of hKK hz6)
      have HB5 := below_step HB4.out hb
      have hbox' := blk_below hbox hb
      clear hA h9 hC hKK hHeld
      refine hK.out _ _ hS5 (fun hHeld => ?_)
      clear hK K hS5
      refine norm_ (a' := ?_) ?_ ?_
      rotate_left
      · show Act.put _ (some 98) _ = _
        simp only [Act.put, List.setIfInBounds_toArray, List.set_cons_zero, List.set_cons_succ, i64_w, i32_w]
        rfl
      refine pure_ (i := 5) (N := some 93) (v := ?_) (a' := ?_) #[true, true, true, true, true, true, false, false, false, true, false, false, false] rfl rfl (any_of HT_.out (by kernel_rfl)) (fun _ _ _ h => h) (Or.inl ⟨by rfl, ?_⟩) ?_ ?_
      rotate_left
      · intro w'
        go_simp
        with_reducible rfl
      rotate_left
      · simp only [Act.put, List.setIfInBounds_toArray, List.set_cons_zero, List.set_cons_succ, i64_w, i32_w]
        rfl
      refine pure_ (i := 6) (N := some 99) (v := ?_) (a' := ?_) #[true, true, true, true, true, true, true, false, false, true, false, false, false] rfl rfl (any_of HT_.out (by kernel_rfl)) (fun _ _ _ h => h) (Or.inl ⟨by rfl, ?_⟩) ?_ ?_
      rotate_left
      · intro w'
        go_simp
        with_reducible rfl
      rotate_left
      · simp only [Act.put, List.setIfInBounds_toArray, List.set_cons_zero, List.set_cons_succ, i64_w, i32_w]
        rfl
      refine pure_ (i := 7) (N := some 100) (v := ?_) (a' := ?_) #[true, true, true, true, true, true, true, true, false, true, false, false, false] rfl rfl (any_of HT_.out (by kernel_rfl)) (fun _ _ _ h => h) (Or.inl ⟨by rfl, ?_⟩) ?_ ?_
      rotate_left
      · intro w'
        go_simp
        with_reducible rfl
      rotate_left
      · simp only [Act.put, List.setIfInBounds_toArray, List.set_cons_zero, List.set_cons_succ, i64_w, i32_w]
        rfl
      refine pure_ (i := 8) (N := some 101) (v := ?_) (a' := ?_) #[true, true, true, true, true, true, true, true, true, true, false, false, false] rfl rfl (any_of HT_.out (by kernel_rfl)) (fun _ _ _ h => h) (Or.inl ⟨by rfl, ?_⟩) ?_ ?_
      rotate_left
      · intro w'
        go_simp
        with_reducible rfl
      rotate_left
      · simp only [Act.put, List.setIfInBounds_toArray, List.set_cons_zero, List.set_cons_succ, i64_w, i32_w]
        rfl
      exact norm_ (by simp only [putAll, Act.put, List.setIfInBounds_toArray, List.set_cons_zero, List.set_cons_succ]) (hCont (x6, x6', x7, x7', x8, x8', u6, u6', gx) _ ⟨hHeld, hbox', HF5.mono (fun W' h => ⟨h.1.1, h.1.2.1, h.1.2.2.1, h.1.2.2.2.1, h.1.2.2.2.2, h.2.1, h.2.2⟩), hz5, HB5⟩)
  rintro ⟨x6, x6', x7, x7', x8, x8', u6, u6', gx⟩ w5 ⟨hHeld, hbox, HF5, hz5, HB5⟩
  clear HS' HB' HZ'
  replace hz5 : w0_9.heap.size ≤ gx := hz5
  replace hbox : w5.heap[gx]? = some (.cells #[.int .i64 0, .int .i64 0, .int .i64 0, .int .i64 0, .bool false, .int .i64 0, .slice none 0 0, .slice none 0 0, .slice none 0 0] 26 (0, 0)) := hbox
  replace HF5 : StaysBut w5 gx (fun W => W.heap[w2.heap.size]? = some (.cells #[.int .i64 1, .int .i64 3, .int .i64 0, .int .i64 0, .bool true, .int .i64 0, .slice b6 0 b6', .slice b7 3 b7', .slice b8 0 b8'] 26 (0, 0)) ∧ W.heap[gd]? = some (.cells #[.int .i64 1, .int .i64 3, .int .i64 0, .int .i64 0, .bool true, .int .i64 0, .slice d6 1 d6', .slice d7 3 d7', .slice d8 0 d8'] 26 (0, 0)) ∧ Arg W (⟨1, 3, 0, 0, true, 0, [], [0, 0, 0], [], []⟩ : Nod) b6 b7 b8 b6' b7' b8' ∧ Arg W (⟨1, 3, 0, 0, true, 0, [⟨#[97]⟩], [0, 0, 0], [], [⟨2, 1, 0, 0, 0, 0, 1, []⟩]⟩ : Nod) d6 d7 d8 d6' d7' d8' ∧ Arg W (⟨0, 3, 0, 0, true, 0, [⟨#[97]⟩], [1, 0, 0], [], [⟨1, 0, 1, 0, 0, 0, 0, [⟨#[97]⟩]⟩, ⟨1, 0, 2, 0, 0, 0, 0, [⟨#[97]⟩]⟩]⟩ : Nod) c6 c7 c8 c6' c7' c8' ∧ Arg W (⟨0, 3, 0, 0, true, 1, [⟨#[97]⟩], [1, 1, 0], [], [⟨1, 0, 1, 0, 0, 1, 0, [⟨#[97]⟩]⟩, ⟨1, 0, 2, 0, 0, 1, 0, [⟨#[97]⟩]⟩]⟩ : Nod) x6 x7 x8 x6' x7' x8' ∧ Kd.C k28 W u6 2 [(⟨1, 0, 1, 0, 0, 1, 0, [⟨#[97]⟩]⟩ : S28), ⟨1, 0, 2, 0, 0, 1, 0, [⟨#[97]⟩]⟩]) := HF5
  refine norm_ (a' := ?_) ?_ ?_
  rotate_left
  · simp only [putAll, Act.put, List.setIfInBounds_toArray, List.set_cons_zero, List.set_cons_succ]
    rfl
  refine one_ (i := 10) (N := none) #[true, true, true, true, true, true, true, true, true, true, true, false, false] rfl rfl (one_of HT_.out (by kernel_rfl)) (by decide) (fun K hK => ?_)
  have hs0 : w5.cell? ⟨gx, 0, none⟩ = some (.int .i64 0) := (blk_cell hbox 0).trans rfl
  have hf0 := blk_frozen hbox 0
  have hs1 : w5.cell? ⟨gx, 1, none⟩ = some (.int .i64 0) := (blk_cell hbox 1).trans rfl
  have hf1 := blk_frozen hbox 1
  have hs2 : w5.cell? ⟨gx, 2, none⟩ = some (.int .i64 0) := (blk_cell hbox 2).trans rfl
  have hf2 := blk_frozen hbox 2
  have hs3 : w5.cell? ⟨gx, 3, none⟩ = some (.int .i64 0) := (blk_cell hbox 3).trans rfl
  have hf3 := blk_frozen hbox 3
  have hs4 : w5.cell? ⟨gx, 4, none⟩ = some (.bool false) := (blk_cell hbox 4).trans rfl
  have hf4 := blk_frozen hbox 4
  have hs5 : w5.cell? ⟨gx, 5, none⟩ = some (.int .i64 0) := (blk_cell hbox 5).trans rfl
  have hf5 := blk_frozen hbox 5
  have hs6 : w5.cell? ⟨gx, 6, none⟩ = some (.slice none 0 0) := (blk_cell hbox 6).trans rfl
  have hf6 := blk_frozen hbox 6
  have hs7 : w5.cell? ⟨gx, 7, none⟩ = some (.slice none 0 0) := (blk_cell hbox 7).trans rfl
  have hf7 := blk_frozen hbox 7
  have hs8 : w5.cell? ⟨gx, 8, none⟩ = some (.slice none 0 0) := (blk_cell hbox 8).trans rfl
  have hf8 := blk_frozen hbox 8
  refine skip_ (w1 := ?_) (by rfl) rfl ?_ ?_
  rotate_left
  · go_simp
    rfl
  have hP := put9 hbox (.int .i64 0) (.int .i64 3) (.int .i64 0) (.int .i64 0) (.bool true) (.int .i64 1) (.slice x6 1 x6') (.slice x7 3 x7') (.slice x8 0 x8')
  refine hK.out _ _ ⟨(World.cell?_of_block (w := w5) (hP.2 _ (by show w3.heap.size ≠ gx; omega))).trans (hHeld.1), (World.cell?_of_block (w := w5) (hP.2 _ (by show w3.heap.size ≠ gx; omega))).trans (hHeld.2.1), (World.cell?_of_block (w := w5) (hP.2 _ (by show w3.heap.size ≠ gx; omega))).trans (hHeld.2.2.1), (World.cell?_of_block (w := w5) (hP.2 _ (by show w3.heap.size ≠ gx; omega))).trans (hHeld.2.2.2.1), (World.cell?_of_block (w := w5) (hP.2 _ (by show w3.heap.size ≠ gx; omega))).trans (hHeld.2.2.2.2.1), (World.cell?_of_block (w := w5) (hP.2 _ (by show w3.heap.size ≠ gx; omega))).trans (hHeld.2.2.2.2.2.1), (World.cell?_of_block (w := w5) (hP.2 _ (by show w3.heap.size ≠ gx; omega))).trans (hHeld.2.2.2.2.2.2.1), (World.cell?_of_block (w := w5) (hP.2 _ (by show w3.heap.size ≠ gx; omega))).trans (hHeld.2.2.2.2.2.2.2.1), (World.cell?_of_block (w := w5) (hP.2 _ (by show w3.heap.size ≠ gx; omega))).trans (hHeld.2.2.2.2.2.2.2.2.1), (World.cell?_of_block (w := w5) (hP.2 _ (by show ad6.block ≠ gx; omega))).trans (hHeld.2.2.2.2.2.2.2.2.2.1), (World.cell?_of_block (w := w5) (hP.2 _ (by show ad6.block ≠ gx; omega))).trans (hHeld.2.2.2.2.2.2.2.2.2.2.1), (World.cell?_of_block (w := w5) (hP.2 _ (by show ad6.block ≠ gx; omega))).trans (hHeld.2.2.2.2.2.2.2.2.2.2.2.1), (World.cell?_of_block (w := w5) (hP.2 _ (by show ad6.block ≠ gx; omega))).trans (hHeld.2.2.2.2.2.2.2.2.2.2.2.2.1), (World.cell?_of_block (w := w5) (hP.2 _ (by show ad6.block ≠ gx; omega))).trans (hHeld.2.2.2.2.2.2.2.2.2.2.2.2.2.1), (World.cell?_of_block (w := w5) (hP.2 _ (by show ad6.block ≠ gx; omega))).trans (hHeld.2.2.2.2.2.2.2.2.2.2.2.2.2.2.1), (World.cell?_of_block (w := w5) (hP.2 _ (by show ad6.block ≠ gx; omega))).trans (hHeld.2.2.2.2.2.2.2.2.2.2.2.2.2.2.2.1), (World.cell?_of_block (w := w5) (hP.2 _ (by show ad6.block ≠ gx; omega))).trans (hHeld.2.2.2.2.2.2.2.2.2.2.2.2.2.2.2.2)⟩ (fun _ => ?_)
  clear hK K
  have HS := Aside0.mk (HF5.put (W1 := (((((((((w5.setCell ⟨gx, 0, none⟩ (.int .i64 0)).setCell ⟨gx, 1, none⟩ (.int .i64 3)).setCell ⟨gx, 2, none⟩ (.int .i64 0)).setCell ⟨gx, 3, none⟩ (.int .i64 0)).setCell ⟨gx, 4, none⟩ (.bool true)).setCell ⟨gx, 5, none⟩ (.int .i64 1)).setCell ⟨gx, 6, none⟩ (.slice x6 1 x6')).setCell ⟨gx, 7, none⟩ (.slice x7 3 x7')).setCell ⟨gx, 8, none⟩ (.slice x8 0 x8'))) (by simp [World.setCell]) hP.1 hP.2)
  have HB := Aside0.mk (put9_below HB5 (g := gx) (by have := HB0.out; omega) (.int .i64 0) (.int .i64 3) (.int .i64 0) (.int .i64 0) (.bool true) (.int .i64 1) (.slice x6 1 x6') (.slice x7 3 x7') (.slice x8 0 x8'))
  clear hP HF5 HB5 hbox hHeld hz5 hgin' had' hs0 hf0 hs1 hf1 hs2 hf2 hs3 hf3 hs4 hf4 hs5 hf5 hs6 hf6 hs7 hf7 hs8 hf8
  generalize (((((((((w5.setCell ⟨gx, 0, none⟩ (.int .i64 0)).setCell ⟨gx, 1, none⟩ (.int .i64 3)).setCell ⟨gx, 2, none⟩ (.int .i64 0)).setCell ⟨gx, 3, none⟩ (.int .i64 0)).setCell ⟨gx, 4, none⟩ (.bool true)).setCell ⟨gx, 5, none⟩ (.int .i64 1)).setCell ⟨gx, 6, none⟩ (.slice x6 1 x6')).setCell ⟨gx, 7, none⟩ (.slice x7 3 x7')).setCell ⟨gx, 8, none⟩ (.slice x8 0 x8')) = we at HS HB ⊢
  refine pure_ (i := 11) (N := some 12) (v := ?_) (a' := ?_) #[true, true, true, true, true, true, true, true, true, true, true, true, false] rfl rfl (any_of HT_.out (by kernel_rfl)) (fun _ _ _ h => h) (Or.inl ⟨by rfl, ?_⟩) ?_ ?_
  rotate_left
  · intro w'
    go_simp
    with_reducible rfl
  rotate_left
  · simp only [Act.put, List.setIfInBounds_toArray, List.set_cons_zero, List.set_cons_succ, i64_w, i32_w]
    rfl
  refine pure_ (i := 12) (N := some 13) (v := ?_) (a' := ?_) #[true, true, true, true, true, true, true, true, true, true, true, true, true] rfl rfl (any_of HT_.out (by kernel_rfl)) (fun _ _ _ h => h) (Or.inl ⟨by rfl, ?_⟩) ?_ ?_
  rotate_left
  · intro w'
    go_simp
    with_reducible rfl
  rotate_left
  · simp only [Act.put, List.setIfInBounds_toArray, List.set_cons_zero, List.set_cons_succ, i64_w, i32_w]
    rfl
  refine done_ (done_of HT_.out (by kernel_rfl)) ?_
  clear HT_ HW_
  clear HZL HB0
  have q0 : we.cell? ⟨gd, 0, none⟩ = some (.int .i64 1) := blk_cell HS.out.here.2.2.1 0
  have q1 : we.cell? ⟨gd, 1, none⟩ = some (.int .i64 3) := blk_cell HS.out.here.2.2.1 1
  have q2 : we.cell? ⟨gd, 2, none⟩ = some (.int .i64 0) := blk_cell HS.out.here.2.2.1 2
  have q3 : we.cell? ⟨gd, 3, none⟩ = some (.int .i64 0) := blk_cell HS.out.here.2.2.1 3
  have q4 : we.cell? ⟨gd, 4, none⟩ = some (.bool true) := blk_cell HS.out.here.2.2.1 4
  have q5 : we.cell? ⟨gd, 5, none⟩ = some (.int .i64 0) := blk_cell HS.out.here.2.2.1 5
  have q6 : we.cell? ⟨gd, 6, none⟩ = some (.slice d6 1 d6') := blk_cell HS.out.here.2.2.1 6
  have q7 : we.cell? ⟨gd, 7, none⟩ = some (.slice d7 3 d7') := blk_cell HS.out.here.2.2.1 7
  have q8 : we.cell? ⟨gd, 8, none⟩ = some (.slice d8 0 d8') := blk_cell HS.out.here.2.2.1 8
  go_wp2_with (fail)
  go_at_call 12
  with_reducible refine (w_timeout _ _ _ _ _ _ _ HS.out.here.2.2.2.2.1).mono ?_
  rintro e w7 ⟨y6, y6', y7, y7', y8, y8', o6, o6', rfl, hA, h9, hC, hb, hK⟩
  have HS7 := Aside0.mk (show Stays (w7.alloc (.cells #[.int .i64 1, .int .i64 3, .int .i64 1, .int .i64 0, .bool false, .int .i64 0, .slice y6 1 y6', .slice y7 3 y7', .slice y8 1 y8'] 26)) (fun W => W.heap[gx]? = some (.cells #[.int .i64 0, .int .i64 3, .int .i64 0, .int .i64 0, .bool true, .int .i64 1, .slice x6 1 x6', .slice x7 3 x7', .slice x8 0 x8'] 26 (0, 0)) ∧ W.heap[w2.heap.size]? = some (.cells #[.int .i64 1, .int .i64 3, .int .i64 0, .int .i64 0, .bool true, .int .i64 0, .slice b6 0 b6', .slice b7 3 b7', .slice b8 0 b8'] 26 (0, 0)) ∧ W.heap[w7.heap.size]? = some (.cells #[.int .i64 1, .int .i64 3, .int .i64 1, .int .i64 0, .bool false, .int .i64 0, .slice y6 1 y6', .slice y7 3 y7', .slice y8 1 y8'] 26 (0, 0)) ∧ Arg W (⟨1, 3, 0, 0, true, 0, [], [0, 0, 0], [], []⟩ : Nod) b6 b7 b8 b6' b7' b8' ∧ Arg W (⟨0, 3, 0, 0, true, 1, [⟨#[97]⟩], [1, 1, 0], [], [⟨1, 0, 1, 0, 0, 1, 0, [⟨#[97]⟩]⟩, ⟨1, 0, 2, 0, 0, 1, 0, [⟨#[97]⟩]⟩]⟩ : Nod) x6 x7 x8 x6' x7' x8' ∧ Kd.C k28 W u6 2 [(⟨1, 0, 1, 0, 0, 1, 0, [⟨#[97]⟩]⟩ : S28), ⟨1, 0, 2, 0, 0, 1, 0, [⟨#[97]⟩]⟩]) from (((HS.out.below hb).alloc (.cells #[.int .i64 1, .int .i64 3, .int .i64 1, .int .i64 0, .bool false, .int .i64 0, .slice y6 1 y6', .slice y7 3 y7', .slice y8 1 y8'] 26)).and (Stays.new w7 (.cells #[.int .i64 1, .int .i64 3, .int .i64 1, .int .i64 0, .bool false, .int .i64 0, .slice y6 1 y6', .slice y7 3 y7', .slice y8 1 y8'] 26))).mono (fun W' h => ⟨h.1.1, h.1.2.1, h.2, h.1.2.2.2.1, h.1.2.2.2.2.2.2.1, h.1.2.2.2.2.2.2.2⟩))
  have HB7 := Aside0.mk (below_alloc (below_step HB.out hb) (.cells #[.int .i64 1, .int .i64 3, .int .i64 1, .int .i64 0, .bool false, .int .i64 0, .slice y6 1 y6', .slice y7 3 y7', .slice y8 1 y8'] 26))
  clear HS HB hA h9 hC hb hK q0 q1 q2 q3 q4 q5 q6 q7 q8
  have q0 : (w7.alloc (.cells #[.int .i64 1, .int .i64 3, .int .i64 1, .int .i64 0, .bool false, .int .i64 0, .slice y6 1 y6', .slice y7 3 y7', .slice y8 1 y8'] 26)).cell? ⟨w2.heap.size, 0, none⟩ = some (.int .i64 1) := blk_cell HS7.out.here.2.1 0
  have q1 : (w7.alloc (.cells #[.int .i64 1, .int .i64 3, .int .i64 1, .int .i64 0, .bool false, .int .i64 0, .slice y6 1 y6', .slice y7 3 y7', .slice y8 1 y8'] 26)).cell? ⟨w2.heap.size, 1, none⟩ = some (.int .i64 3) := blk_cell HS7.out.here.2.1 1
  have q2 : (w7.alloc (.cells #[.int .i64 1, .int .i64 3, .int .i64 1, .int .i64 0, .bool false, .int .i64 0, .slice y6 1 y6', .slice y7 3 y7', .slice y8 1 y8'] 26)).cell? ⟨w2.heap.size, 2, none⟩ = some (.int .i64 0) := blk_cell HS7.out.here.2.1 2
  have q3 : (w7.alloc (.cells #[.int .i64 1, .int .i64 3, .int .i64 1, .int .i64 0, .bool false, .int .i64 0, .slice y6 1 y6', .slice y7 3 y7', .slice y8 1 y8'] 26)).cell? ⟨w2.heap.size, 3, none⟩ = some (.int .i64 0) := blk_cell HS7.out.here.2.1 3
  have q4 : (w7.alloc (.cells #[.int .i64 1, .int .i64 3, .int .i64 1, .int .i64 0, .bool false, .int .i64 0, .slice y6 1 y6', .slice y7 3 y7', .slice y8 1 y8'] 26)).cell? ⟨w2.heap.size, 4, none⟩ = some (.bool true) := blk_cell HS7.out.here.2.1 4
  have q5 : (w7.alloc (.cells #[.int .i64 1, .int .i64 3, .int .i64 1, .int .i64 0, .bool false, .int .i64 0, .slice y6 1 y6', .slice y7 3 y7', .slice y8 1 y8'] 26)).cell? ⟨w2.heap.size, 5, none⟩ = some (.int .i64 0) := blk_cell HS7.out.here.2.1 5
  have q6 : (w7.alloc (.cells #[.int .i64 1, .int .i64 3, .int .i64 1, .int .i64 0, .bool false, .int .i64 0, .slice y6 1 y6', .slice y7 3 y7', .slice y8 1 y8'] 26)).cell? ⟨w2.heap.size, 6, none⟩ = some (.slice b6 0 b6') := blk_cell HS7.out.here.2.1 6
  have q7 : (w7.alloc (.cells #[.int .i64 1, .int .i64 3, .int .i64 1, .int .i64 0, .bool false, .int .i64 0, .slice y6 1 y6', .slice y7 3 y7', .slice y8 1 y8'] 26)).cell? ⟨w2.heap.size, 7, none⟩ = some (.slice b7 3 b7') := blk_cell HS7.out.here.2.1 7
  have q8 : (w7.alloc (.cells #[.int .i64 1, .int .i64 3, .int .i64 1, .int .i64 0, .bool false, .int .i64 0, .slice y6 1 y6', .slice y7 3 y7', .slice y8 1 y8'] 26)).cell? ⟨w2.heap.size, 8, none⟩ = some (.slice b8 0 b8') := blk_cell HS7.out.here.2.1 8
  go_wp2_with (fail)
  go_at_call 13
  with_reducible refine (w_ask2 _ _ _ _ _ _ _ HS7.out.here.2.2.2.1).mono ?_
  rintro e w8 ⟨r6, r6', r7, r7', r8, r8', v6, v6', rfl, hb⟩
  have HS8 := Aside0.mk ((HS7.out.below hb).alloc (.cells #[.int .i64 0, .int .i64 0, .int .i64 0, .int .i64 0, .bool false, .int .i64 0, .slice r6 0 r6', .slice r7 0 r7', .slice r8 0 r8'] 26))
  have HB8 := Aside0.mk (below_alloc (below_step HB7.out hb) (.cells #[.int .i64 0, .int .i64 0, .int .i64 0, .int .i64 0, .bool false, .int .i64 0, .slice r6 0 r6', .slice r7 0 r7', .slice r8 0 r8'] 26))
  clear HS7 HB7 hb q0 q1 q2 q3 q4 q5 q6 q7 q8
  have q0 : (w8.alloc (.cells #[.int .i64 0, .int .i64 0, .int .i64 0, .int .i64 0, .bool false, .int .i64 0, .slice r6 0 r6', .slice r7 0 r7', .slice r8 0 r8'] 26)).cell? ⟨gx, 0, none⟩ = some (.int .i64 0) := blk_cell HS8.out.here.1 0
  have q1 : (w8.alloc (.cells #[.int .i64 0, .int .i64 0, .int .i64 0, .int .i64 0, .bool false, .int .i64 0, .slice r6 0 r6', .slice r7 0 r7', .slice r8 0 r8'] 26)).cell? ⟨gx, 1, none⟩ = some (.int .i64 3) := blk_cell HS8.out.here.1 1
  have q2 : (w8.alloc (.cells #[.int .i64 0, .int .i64 0, .int .i64 0, .int .i64 0, .bool false, .int .i64 0, .slice r6 0 r6', .slice r7 0 r7', .slice r8 0 r8'] 26)).cell? ⟨gx, 2, none⟩ = some (.int .i64 0) := blk_cell HS8.out.here.1 2
  have q3 : (w8.alloc (.cells #[.int .i64 0, .int .i64 0, .int .i64 0, .int .i64 0, .bool false, .int .i64 0, .slice r6 0 r6', .slice r7 0 r7', .slice r8 0 r8'] 26)).cell? ⟨gx, 3, none⟩ = some (.int .i64 0) := blk_cell HS8.out.here.1 3
  have q4 : (w8.alloc (.cells #[.int .i64 0, .int .i64 0, .int .i64 0, .int .i64 0, .bool false, .int .i64 0, .slice r6 0 r6', .slice r7 0 r7', .slice r8 0 r8'] 26)).cell? ⟨gx, 4, none⟩ = some (.bool true) := blk_cell HS8.out.here.1 4
  have q5 : (w8.alloc (.cells #[.int .i64 0, .int .i64 0, .int .i64 0, .int .i64 0, .bool false, .int .i64 0, .slice r6 0 r6', .slice r7 0 r7', .slice r8 0 r8'] 26)).cell? ⟨gx, 5, none⟩ = some (.int .i64 1) := blk_cell HS8.out.here.1 5
  have q6 : (w8.alloc (.cells #[.int .i64 0, .int .i64 0, .int .i64 0, .int .i64 0, .bool false, .int .i64 0, .slice r6 0 r6', .slice r7 0 r7', .slice r8 0 r8'] 26)).cell? ⟨gx, 6, none⟩ = some (.slice x6 1 x6') := blk_cell HS8.out.here.1 6
  have q7 : (w8.alloc (.cells #[.int .i64 0, .int .i64 0, .int .i64 0, .int .i64 0, .bool false, .int .i64 0, .slice r6 0 r6', .slice r7 0 r7', .slice r8 0 r8'] 26)).cell? ⟨gx, 7, none⟩ = some (.slice x7 3 x7') := blk_cell HS8.out.here.1 7
  have q8 : (w8.alloc (.cells #[.int .i64 0, .int .i64 0, .int .i64 0, .int .i64 0, .bool false, .int .i64 0, .slice r6 0 r6', .slice r7 0 r7', .slice r8 0 r8'] 26)).cell? ⟨gx, 8, none⟩ = some (.slice x8 0 x8') := blk_cell HS8.out.here.1 8
  have y0 : (w8.alloc (.cells #[.int .i64 0, .int .i64 0, .int .i64 0, .int .i64 0, .bool false, .int .i64 0, .slice r6 0 r6', .slice r7 0 r7', .slice r8 0 r8'] 26)).cell? ⟨w7.heap.size, 0, none⟩ = some (.int .i64 1) := blk_cell HS8.out.here.2.2.1 0
  have y1 : (w8.alloc (.cells #[.int .i64 0, .int .i64 0, .int .i64 0, .int .i64 0, .bool false, .int .i64 0, .slice r6 0 r6', .slice r7 0 r7', .slice r8 0 r8'] 26)).cell? ⟨w7.heap.size, 1, none⟩ = some (.int .i64 3) := blk_cell HS8.out.here.2.2.1 1
  have y2 : (w8.alloc (.cells #[.int .i64 0, .int .i64 0, .int .i64 0, .int .i64 0, .bool false, .int .i64 0, .slice r6 0 r6', .slice r7 0 r7', .slice r8 0 r8'] 26)).cell? ⟨w7.heap.size, 2, none⟩ = some (.int .i64 1) := blk_cell HS8.out.here.2.2.1 2
  have y3 : (w8.alloc (.cells #[.int .i64 0, .int .i64 0, .int .i64 0, .int .i64 0, .bool false, .int .i64 0, .slice r6 0 r6', .slice r7 0 r7', .slice r8 0 r8'] 26)).cell? ⟨w7.heap.size, 3, none⟩ = some (.int .i64 0) := blk_cell HS8.out.here.2.2.1 3
  have y4 : (w8.alloc (.cells #[.int .i64 0, .int .i64 0, .int .i64 0, .int .i64 0, .bool false, .int .i64 0, .slice r6 0 r6', .slice r7 0 r7', .slice r8 0 r8'] 26)).cell? ⟨w7.heap.size, 4, none⟩ = some (.bool false) := blk_cell HS8.out.here.2.2.1 4
  have y5 : (w8.alloc (.cells #[.int .i64 0, .int .i64 0, .int .i64 0, .int .i64 0, .bool false, .int .i64 0, .slice r6 0 r6', .slice r7 0 r7', .slice r8 0 r8'] 26)).cell? ⟨w7.heap.size, 5, none⟩ = some (.int .i64 0) := blk_cell HS8.out.here.2.2.1 5
  have y6 : (w8.alloc (.cells #[.int .i64 0, .int .i64 0, .int .i64 0, .int .i64 0, .bool false, .int .i64 0, .slice r6 0 r6', .slice r7 0 r7', .slice r8 0 r8'] 26)).cell? ⟨w7.heap.size, 6, none⟩ = some (.slice y6 1 y6') := blk_cell HS8.out.here.2.2.1 6
  have y7 : (w8.alloc (.cells #[.int .i64 0, .int .i64 0, .int .i64 0, .int .i64 0, .bool false, .int .i64 0, .slice r6 0 r6', .slice r7 0 r7', .slice r8 0 r8'] 26)).cell? ⟨w7.heap.size, 7, none⟩ = some (.slice y7 3 y7') := blk_cell HS8.out.here.2.2.1 7
  have y8 : (w8.alloc (.cells #[.int .i64 0, .int .i64 0, .int .i64 0, .int .i64 0, .bool false, .int .i64 0, .slice r6 0 r6', .slice r7 0 r7', .slice r8 0 r8'] 26)).cell? ⟨w7.heap.size, 8, none⟩ = some (.slice y8 1 y8') := blk_cell HS8.out.here.2.2.1 8
  obtain ⟨ad8, zM, zm, ze, z0, z1, z2, z3, z4, z5, z6, z7, zl, zh⟩ := at_T28 HS8.out.here.2.2.2.2.2 1 (by decide) (by decide)
  cases ze
  simp only [show (1 : Int).toNat = 1 from rfl, Nat.zero_mul, Nat.one_mul] at z0 z1 z2 z3 z4 z5 z6 z7
  change _ = some (Value.int .i64 1) at z0
  change _ = some (Value.int .i64 0) at z1
  change _ = some (Value.int .i64 2) at z2
  change _ = some (Value.int .i64 0) at z3
  change _ = some (Value.int .i64 0) at z4
  change _ = some (Value.int .i64 1) at z5
  change _ = some (Value.int .i64 0) at z6
  change _ = some (Value.slice zM 1 zm) at z7
  change (w8.alloc (.cells #[.int .i64 0, .int .i64 0, .int .i64 0, .int .i64 0, .bool false, .int .i64 0, .slice r6 0 r6', .slice r7 0 r7', .slice r8 0 r8'] 26)).cell? ⟨ad8.block, ad8.off + 8 + 5, none⟩ = _ at z5
  clear z0 z1 z2 z3 z4 z6 z7 zh zl
  go_wp2_with ((go_at_call 15; with_reducible refine (w_is _ _ _ _ _ _ _ HS8.out.here.2.2.2.2.1).mono ?_; rintro e w9 ⟨rfl, hb⟩; have HB9 := Aside0.mk (below_step HB8.out hb); clear hb))
  go_ret
  exact ⟨rfl, HB9.out⟩
end Go.Proofs.Ytfpfpckocemmdaa.P
end
section
namespace Go.Proofs.Ytfpfpckocemmdaa.P
open Go.RowKit Go.Proofs.YtfpfpckocemmdaaW.PrintWords Go.Proofs.YtfpfpckocemmdaaW.PrintLast Go.Proofs.YtfpfpckocemmdaaW.PrintMore
attribute [local go_sem] max2_int min2_int max_two min_two max_three min_three max_four min_four   -- for this text's walks alone
set_option linter.unusedVariables false
set_option linter.unusedSimpArgs false
def sextonlaw24_worked.f : Option Bool := some true
theorem sextonlaw24_worked.calls (r : Bool) (w : World) (h : sextonlaw24_worked.f = some r) :
    Calls Try.prog 9 #[] w fun e w' => e = .returned (.bool r) ∧ Below w.heap.size w w' := by
  obtain rfl := Option.some.inj h
  exact worked_calls w
def replica_Timeout.f (a0_0 : Int) (a0_1 : Int) (a0_2 : Int) (a0_3 : Int) (a0_4 : Bool) (a0_5 : Int) (l0_6 : List ByteArray) (l0_7 : List Int) (l0_8 : List (S66)) : Option (Int × Int × Int × Int × Bool × Int × List ByteArray × List Int × (List (S66)) × List (S28) × Int) := if fitB l0_6 l0_7 l0_8 = true then some (flat3 (timeoutOf ⟨a0_0, a0_1, a0_2, a0_3, a0_4, a0_5, l0_6, l0_7, l0_8, []⟩)) else none
theorem replica_Timeout.calls (a0_0 : Int) (a0_1 : Int) (a0_2 : Int) (a0_3 : Int) (a0_4 : Bool) (a0_5 : Int) (A0_6 : Option Addr) (c0_6 : Nat) (l0_6 : List ByteArray) (A0_7 : Option Addr) (c0_7 : Nat) (l0_7 : List Int) (A0_8 : Option Addr) (c0_8 : Nat) (l0_8 : List (S66)) (r1 : Int) (r2 : Int) (r3 : Int) (r4 : Int) (r5 : Bool) (r6 : Int) (r7 : List ByteArray) (r8 : List Int) (r9 : List (S66)) (r10 : List (S28)) (r11 : Int) (w : World) (hr0_6 : Kd.C Kd.string w A0_6 l0_6.length l0_6) (hc0_6 : l0_6.length ≤ c0_6) (hr0_7 : Kd.C (Kd.int .i64) w A0_7 l0_7.length l0_7) (hc0_7 : l0_7.length ≤ c0_7) (hr0_8 : Kd.C k66 w A0_8 l0_8.length l0_8) (hc0_8 : l0_8.length ≤ c0_8) (h : replica_Timeout.f a0_0 a0_1 a0_2 a0_3 a0_4 a0_5 l0_6 l0_7 l0_8 = some (r1, r2, r3, r4, r5, r6, r7, r8, r9, r10, r11)) :
    Calls Try.prog 12 #[.agg #[.int .i64 a0_0, .int .i64 a0_1, .int .i64 a0_2, .int .i64 a0_3, .bool a0_4, .int .i64 a0_5, .slice A0_6 l0_6.length c0_6, .slice A0_7 l0_7.length c0_7, .slice A0_8 l0_8.length c0_8]] w fun e w' => ∃ v6_ v7_ v8_ v9_ : Value, e = .returned (.tuple #[.agg #[.int .i64 r1, .int .i64 r2, .int .i64 r3, .int .i64 r4, .bool r5, .int .i64 r6, v6_, v7_, v8_], v9_, .int .i64 r11]) ∧ Kd.R Kd.string 9 w' w.heap.size (fun _ => True) v6_ r7 ∧ Kd.R (Kd.int .i64) 3 w' w.heap.size (fun _ => True) v7_ r8 ∧ Kd.S k66 66 w' w.heap.size (fun k_ => some k_ ≠ (v6_ : Value).ownBlock) v8_ r9 ∧ Kd.S k28 28 w' w.heap.size (fun k_ => some k_ ≠ (v6_ : Value).ownBlock) v9_ r10 ∧ Below w.heap.size w w' := by
  unfold replica_Timeout.f at h
  split at h
  case isFalse => cases h
  rename_i hfit
  have h := Option.some.inj h
  unfold flat3 at h
  simp only [Prod.mk.injEq] at h
  obtain ⟨rfl, rfl, rfl, rfl, rfl, rfl, rfl, rfl, rfl, rfl, rfl⟩ := h
  exact (timeout_calls ⟨a0_0, a0_1, a0_2, a0_3, a0_4, a0_5, l0_6, l0_7, l0_8, []⟩  A0_6 A0_7 A0_8 c0_6 c0_7 c0_8 w (arg_of hr0_6 hc0_6 hr0_7 hc0_7 hr0_8 hc0_8 hfit)).mono fun e w' hb => Back.print hb
def replica_Ask.f (a0_0 : Int) (a0_1 : Int) (a0_2 : Int) (a0_3 : Int) (a0_4 : Bool) (a0_5 : Int) (l0_6 : List ByteArray) (l0_7 : List Int) (l0_8 : List (S66)) (a1 : ByteArray) : Option (Int × Int × Int × Int × Bool × Int × List ByteArray × List Int × (List (S66)) × List (S28) × Int) := if fitB l0_6 l0_7 l0_8 = true then some (flat3 (askOf ⟨a0_0, a0_1, a0_2, a0_3, a0_4, a0_5, l0_6, l0_7, l0_8, []⟩ a1)) else none
theorem replica_Ask.calls (a0_0 : Int) (a0_1 : Int) (a0_2 : Int) (a0_3 : Int) (a0_4 : Bool) (a0_5 : Int) (A0_6 : Option Addr) (c0_6 : Nat) (l0_6 : List ByteArray) (A0_7 : Option Addr) (c0_7 : Nat) (l0_7 : List Int) (A0_8 : Option Addr) (c0_8 : Nat) (l0_8 : List (S66)) (a1 : ByteArray) (r1 : Int) (r2 : Int) (r3 : Int) (r4 : Int) (r5 : Bool) (r6 : Int) (r7 : List ByteArray) (r8 : List Int) (r9 : List (S66)) (r10 : List (S28)) (r11 : Int) (w : World) (hr0_6 : Kd.C Kd.string w A0_6 l0_6.length l0_6) (hc0_6 : l0_6.length ≤ c0_6) (hr0_7 : Kd.C (Kd.int .i64) w A0_7 l0_7.length l0_7) (hc0_7 : l0_7.length ≤ c0_7) (hr0_8 : Kd.C k66 w A0_8 l0_8.length l0_8) (hc0_8 : l0_8.length ≤ c0_8) (h : replica_Ask.f a0_0 a0_1 a0_2 a0_3 a0_4 a0_5 l0_6 l0_7 l0_8 a1 = some (r1, r2, r3, r4, r5, r6, r7, r8, r9, r10, r11)) :
    Calls Try.prog 13 #[.agg #[.int .i64 a0_0, .int .i64 a0_1, .int .i64 a0_2, .int .i64 a0_3, .bool a0_4, .int .i64 a0_5, .slice A0_6 l0_6.length c0_6, .slice A0_7 l0_7.length c0_7, .slice A0_8 l0_8.length c0_8], .string a1] w fun e w' => ∃ v6_ v7_ v8_ v9_ : Value, e = .returned (.tuple #[.agg #[.int .i64 r1, .int .i64 r2, .int .i64 r3, .int .i64 r4, .bool r5, .int .i64 r6, v6_, v7_, v8_], v9_, .int .i64 r11]) ∧ Kd.R Kd.string 9 w' w.heap.size (fun _ => True) v6_ r7 ∧ Kd.R (Kd.int .i64) 3 w' w.heap.size (fun _ => True) v7_ r8 ∧ Kd.S k66 66 w' w.heap.size (fun k_ => some k_ ≠ (v6_ : Value).ownBlock) v8_ r9 ∧ Kd.S k28 28 w' w.heap.size (fun k_ => some k_ ≠ (v6_ : Value).ownBlock) v9_ r10 ∧ Below w.heap.size w w' := by
  unfold replica_Ask.f at h
  split at h
  case isFalse => cases h
  rename_i hfit
  have h := Option.some.inj h
  unfold flat3 at h
  simp only [Prod.mk.injEq] at h
  obtain ⟨rfl, rfl, rfl, rfl, rfl, rfl, rfl, rfl, rfl, rfl, rfl⟩ := h
  exact (ask_calls ⟨a0_0, a0_1, a0_2, a0_3, a0_4, a0_5, l0_6, l0_7, l0_8, []⟩ a1 A0_6 A0_7 A0_8 c0_6 c0_7 c0_8 w (arg_of hr0_6 hc0_6 hr0_7 hc0_7 hr0_8 hc0_8 hfit)).mono fun e w' hb => Back.print hb
end Go.Proofs.Ytfpfpckocemmdaa.P
end
