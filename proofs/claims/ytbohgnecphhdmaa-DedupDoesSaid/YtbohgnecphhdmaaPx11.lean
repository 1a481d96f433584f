-- printed by a program of this session (wip/tools/xprint.py) over the translation; not trusted: Lean checks it
import Derived.Test.YtbohgnecphhdmaaPx0
import Derived.Test.YtbohgnecphhdmaaPx1
import Derived.Test.YtbohgnecphhdmaaPx3
import Derived.Test.YtbohgnecphhdmaaPx4
import Derived.Test.YtbohgnecphhdmaaPx6
import Derived.Test.YtbohgnecphhdmaaPx8
import Derived.Test.YtbohgnecphhdmaaPx9
import Derived.Test.YtbohgnecphhdmaaPx10
namespace Go.Proofs.Ytbohgnecphhdmaa.P
open Go.RowKit Go.Proofs.YtbohgnecphhdmaaW.PrintWords Go.Proofs.YtbohgnecphhdmaaW.PrintLast Go.Proofs.YtbohgnecphhdmaaW.PrintMore
attribute [local go_sem] max2_int min2_int max_two min_two max_three min_three max_four min_four   -- for this text's walks alone
set_option linter.unusedVariables false
set_option linter.unusedSimpArgs false

attribute [local go_sem high] eqA25
/-! ### sextonlaw19_DedupDoes: function 3 -/
mutual
def sextonlaw19_DedupDoes.j0 : Nat → List (S27) → List (S27) → List (S27) → Bool → Option (Bool)
  | 0, _, _, _, _ => none
  | k + 1, x0, x9, x14, x18 => sextonlaw19_DedupDoes.l0 k x0 x9 x14 x18 0
def sextonlaw19_DedupDoes.l0 : Nat → List (S27) → List (S27) → List (S27) → Bool → Int → Option (Bool)
  | 0, _, _, _, _, _ => none
  | k + 1, x0, x9, x14, x18, x19 => if x19 < (x14.length : Int) then (if 0 ≤ x19 then (sextonlaw19_DedupDoes.l0 k x0 x9 (x14.set (x19 : Int).toNat (⟨(rd_T27 x14 x19).f0, (-7), (⟨(rd_T27 x14 x19).f2.f0, (rd_T27 x14 x19).f2.f1⟩ : S25)⟩ : S27)) x18 (wrap64 (x19 + 1))) else (none)) else ((sextonlaw19_seen.f k).bind fun t297 => (if t297 = true then (if x18 = true then ((sextonref19_Same.f k x0 x9).bind fun t298 => (some t298)) else (some false)) else (some false)))
end
def sextonlaw19_DedupDoes.f (k : Nat) (l0 : List (S27)) (a1_0 : Int) (a1_1 : Int) (a1_2 : Int) (a1_3 : Int) (a2 : Int) (a3 : Int) : Option (Bool) := if (l0.length : Int) > 100 then (some true) else ((sextonref19_Own.f l0).bind fun t272 => ((dedup_Look.f k l0 a2 a3).bind fun bt275 => ((sextonref19_Look.f k t272 a2 a3).bind fun bt279 => ((dedup_Put.f k l0 a1_0 a1_1 a1_2 a1_3).bind fun bt283 => ((sextonref19_Put.f k t272 a1_0 a1_1 a1_2 a1_3).bind fun bt287 => (if (bt275.1 == bt279.1 && (bt275.2.1 == bt279.2.1)) = true then (if bt275.2.2 = bt279.2.2 then ((sextonref19_Same.f k bt283.1 bt287.1).bind fun t291 => (if t291 = true then (if bt283.2 = bt287.2 then ((dedup_Is.f k l0).bind fun t292 => ((sextonref19_Is.f k t272).bind fun t293 => (if (t292 == t293) = true then ((dedup_Last.f k l0 a2).bind fun t294 => ((sextonref19_Last.f k t272 a2).bind fun t295 => (sextonlaw19_DedupDoes.j0 k l0 t272 bt283.1 (t294 == t295)))) else (sextonlaw19_DedupDoes.j0 k l0 t272 bt283.1 false)))) else (sextonlaw19_DedupDoes.j0 k l0 t272 bt283.1 false)) else (sextonlaw19_DedupDoes.j0 k l0 t272 bt283.1 false))) else (sextonlaw19_DedupDoes.j0 k l0 t272 bt283.1 false)) else (sextonlaw19_DedupDoes.j0 k l0 t272 bt283.1 false)))))))
theorem sextonlaw19_DedupDoes.mono_l : ∀ k, (∀ y0 y1 y2 y3, LeO (sextonlaw19_DedupDoes.j0 k y0 y1 y2 y3) (sextonlaw19_DedupDoes.j0 (k + 1) y0 y1 y2 y3)) ∧ (∀ y0 y1 y2 y3 y4, LeO (sextonlaw19_DedupDoes.l0 k y0 y1 y2 y3 y4) (sextonlaw19_DedupDoes.l0 (k + 1) y0 y1 y2 y3 y4))
  | 0 => ⟨fun _ _ _ _ r h => by simp [sextonlaw19_DedupDoes.j0] at h, fun _ _ _ _ _ r h => by simp [sextonlaw19_DedupDoes.l0] at h⟩
  | k + 1 => by
    obtain ⟨ih0, ih1⟩ := sextonlaw19_DedupDoes.mono_l k
    refine ⟨?_, ?_⟩
    · intro y0 y1 y2 y3
      unfold sextonlaw19_DedupDoes.j0
      repeat' first
      | (with_reducible exact ih0 _ _ _ _)
      | (with_reducible exact ih1 _ _ _ _ _)
      | (with_reducible exact dedup_Is.mono _ _)
      | (with_reducible exact dedup_Last.mono _ _ _)
      | (with_reducible exact dedup_Look.mono _ _ _ _)
      | (with_reducible exact dedup_Put.mono _ _ _ _ _ _)
      | (with_reducible exact sextonlaw19_seen.mono _)
      | (with_reducible exact sextonref19_Is.mono _ _)
      | (with_reducible exact sextonref19_Last.mono _ _ _)
      | (with_reducible exact sextonref19_Look.mono _ _ _ _)
      | (with_reducible exact sextonref19_Put.mono _ _ _ _ _ _)
      | (with_reducible exact sextonref19_Same.mono _ _ _)
      | (with_reducible exact LeO.refl _)
      | (with_reducible exact LeO.none _)
      | (with_reducible refine LeO.ite ?_ ?_)
      | (with_reducible refine LeO.bind ?_ (fun _ => ?_))
      | exact ih0 _ _ _ _
      | exact ih1 _ _ _ _ _
      | exact dedup_Is.mono _ _
      | exact dedup_Last.mono _ _ _
      | exact dedup_Look.mono _ _ _ _
      | exact dedup_Put.mono _ _ _ _ _ _
      | exact sextonlaw19_seen.mono _
      | exact sextonref19_Is.mono _ _
      | exact sextonref19_Last.mono _ _ _
      | exact sextonref19_Look.mono _ _ _ _
      | exact sextonref19_Put.mono _ _ _ _ _ _
      | exact sextonref19_Same.mono _ _ _
      | exact LeO.none _
      | refine LeO.ite ?_ ?_
      | refine LeO.bind ?_ (fun _ => ?_)
    · intro y0 y1 y2 y3 y4
      unfold sextonlaw19_DedupDoes.l0
      repeat' first
      | (with_reducible exact ih0 _ _ _ _)
      | (with_reducible exact ih1 _ _ _ _ _)
      | (with_reducible exact dedup_Is.mono _ _)
      | (with_reducible exact dedup_Last.mono _ _ _)
      | (with_reducible exact dedup_Look.mono _ _ _ _)
      | (with_reducible exact dedup_Put.mono _ _ _ _ _ _)
      | (with_reducible exact sextonlaw19_seen.mono _)
      | (with_reducible exact sextonref19_Is.mono _ _)
      | (with_reducible exact sextonref19_Last.mono _ _ _)
      | (with_reducible exact sextonref19_Look.mono _ _ _ _)
      | (with_reducible exact sextonref19_Put.mono _ _ _ _ _ _)
      | (with_reducible exact sextonref19_Same.mono _ _ _)
      | (with_reducible exact LeO.refl _)
      | (with_reducible exact LeO.none _)
      | (with_reducible refine LeO.ite ?_ ?_)
      | (with_reducible refine LeO.bind ?_ (fun _ => ?_))
      | exact ih0 _ _ _ _
      | exact ih1 _ _ _ _ _
      | exact dedup_Is.mono _ _
      | exact dedup_Last.mono _ _ _
      | exact dedup_Look.mono _ _ _ _
      | exact dedup_Put.mono _ _ _ _ _ _
      | exact sextonlaw19_seen.mono _
      | exact sextonref19_Is.mono _ _
      | exact sextonref19_Last.mono _ _ _
      | exact sextonref19_Look.mono _ _ _ _
      | exact sextonref19_Put.mono _ _ _ _ _ _
      | exact sextonref19_Same.mono _ _ _
      | exact LeO.none _
      | refine LeO.ite ?_ ?_
      | refine LeO.bind ?_ (fun _ => ?_)
theorem sextonlaw19_DedupDoes.mono : ∀ a0 a1 a2 a3 a4 a5 a6 k, LeO (sextonlaw19_DedupDoes.f k a0 a1 a2 a3 a4 a5 a6) (sextonlaw19_DedupDoes.f (k + 1) a0 a1 a2 a3 a4 a5 a6) := by
  intro a0 a1 a2 a3 a4 a5 a6 k
  obtain ⟨ih0, ih1⟩ := sextonlaw19_DedupDoes.mono_l k
  unfold sextonlaw19_DedupDoes.f
  repeat' first
      | (with_reducible exact ih0 _ _ _ _)
      | (with_reducible exact ih1 _ _ _ _ _)
      | (with_reducible exact dedup_Is.mono _ _)
      | (with_reducible exact dedup_Last.mono _ _ _)
      | (with_reducible exact dedup_Look.mono _ _ _ _)
      | (with_reducible exact dedup_Put.mono _ _ _ _ _ _)
      | (with_reducible exact sextonlaw19_seen.mono _)
      | (with_reducible exact sextonref19_Is.mono _ _)
      | (with_reducible exact sextonref19_Last.mono _ _ _)
      | (with_reducible exact sextonref19_Look.mono _ _ _ _)
      | (with_reducible exact sextonref19_Put.mono _ _ _ _ _ _)
      | (with_reducible exact sextonref19_Same.mono _ _ _)
      | (with_reducible exact LeO.refl _)
      | (with_reducible exact LeO.none _)
      | (with_reducible refine LeO.ite ?_ ?_)
      | (with_reducible refine LeO.bind ?_ (fun _ => ?_))
      | exact ih0 _ _ _ _
      | exact ih1 _ _ _ _ _
      | exact dedup_Is.mono _ _
      | exact dedup_Last.mono _ _ _
      | exact dedup_Look.mono _ _ _ _
      | exact dedup_Put.mono _ _ _ _ _ _
      | exact sextonlaw19_seen.mono _
      | exact sextonref19_Is.mono _ _
      | exact sextonref19_Last.mono _ _ _
      | exact sextonref19_Look.mono _ _ _ _
      | exact sextonref19_Put.mono _ _ _ _ _ _
      | exact sextonref19_Same.mono _ _ _
      | exact LeO.none _
      | refine LeO.ite ?_ ?_
      | refine LeO.bind ?_ (fun _ => ?_)
set_option maxHeartbeats 8000000 in
set_option maxRecDepth 100000 in
theorem sextonlaw19_DedupDoes.calls (k : Nat) (A0 : Option Addr) (c0 : Nat) (l0 : List (S27)) (a1_0 : Int) (a1_1 : Int) (a1_2 : Int) (a1_3 : Int) (a2 : Int) (a3 : Int) (r : Bool) (w : World) (hr0 : Kd.C k27 w A0 l0.length l0) (hc0 : l0.length ≤ c0) (h : sextonlaw19_DedupDoes.f k l0 a1_0 a1_1 a1_2 a1_3 a2 a3 = some r) (ht : r = true) :
    Calls Try.prog 3 #[.slice A0 l0.length c0, .agg #[.int .i64 a1_0, .int .i64 a1_1, .int .i64 a1_2, .int .i64 a1_3], .int .i64 a2, .int .i64 a3] w fun e w' => e = .returned (.bool r) ∧ Below w.heap.size w w' := by
  have hu27 := Try.underlying27
  have hu25 := Try.underlying25
  have HT := Aside0.mk ht
  clear ht
  have HR0 := Aside0.mk hr0
  have HC0 := Aside0.mk hc0
  clear hr0 hc0
  have HB := Aside0.mk (Below.refl w.heap.size w)
  have H : (if (l0.length : Int) > 100 then (some true) else ((sextonref19_Own.f l0).bind fun t272 => ((dedup_Look.f k l0 a2 a3).bind fun bt275 => ((sextonref19_Look.f k t272 a2 a3).bind fun bt279 => ((dedup_Put.f k l0 a1_0 a1_1 a1_2 a1_3).bind fun bt283 => ((sextonref19_Put.f k t272 a1_0 a1_1 a1_2 a1_3).bind fun bt287 => (if (bt275.1 == bt279.1 && (bt275.2.1 == bt279.2.1)) = true then (if bt275.2.2 = bt279.2.2 then ((sextonref19_Same.f k bt283.1 bt287.1).bind fun t291 => (if t291 = true then (if bt283.2 = bt287.2 then ((dedup_Is.f k l0).bind fun t292 => ((sextonref19_Is.f k t272).bind fun t293 => (if (t292 == t293) = true then ((dedup_Last.f k l0 a2).bind fun t294 => ((sextonref19_Last.f k t272 a2).bind fun t295 => (sextonlaw19_DedupDoes.j0 k l0 t272 bt283.1 (t294 == t295)))) else (sextonlaw19_DedupDoes.j0 k l0 t272 bt283.1 false)))) else (sextonlaw19_DedupDoes.j0 k l0 t272 bt283.1 false)) else (sextonlaw19_DedupDoes.j0 k l0 t272 bt283.1 false))) else (sextonlaw19_DedupDoes.j0 k l0 t272 bt283.1 false)) else (sextonlaw19_DedupDoes.j0 k l0 t272 bt283.1 false)))))))) = some r := h
  clear h
  by_cases c5 : (l0.length : Int) > 100
  · rw [if_pos c5] at H
    have c5b0 : decide (100 < (l0.length : Int)) = true := decide_eq_true c5
    have c5b1 : decide (100 < l0.length) = true := decide_eq_true (by omega)
    clear c5
    obtain rfl := Option.some.inj H
    go_enter Try.func3, Try.ntmps3
    go_wp2_with (first | ((with_reducible refine gate_dst (N := 5) rfl ?_); refine box_event ?hg (N := 5) ?hd (cs := #[.int .i64 a1_0, .int .i64 a1_1, .int .i64 a1_2, .int .i64 a1_3]) (t := 27) ?hr ?_; (case hd => rfl); (case hg => rfl); (case hr => first | (go_simp; done) | (go_simp; rfl)); intro gb271 hg w6 hbox hb; have n0_ := Aside0.mk (below_step (by repeat (first | (with_reducible first | exact HB.out | apply below_alloc | apply pw_below_drewN | apply below_drew1) | exact HB.out)) hb); have n1_ := Aside0.mk (hbox); have n2_ := Aside0.mk ((by rw [hg]; exact (below_size (by repeat (first | (with_reducible first | exact HB.out | apply below_alloc | apply pw_below_drewN | apply below_drew1) | exact HB.out))) : w.heap.size ≤ gb271)); have n3_ := Aside0.mk ((by rw [hg]; exact (below_size (by repeat (first | (with_reducible first | exact HB.out | apply below_alloc | apply pw_below_drewN | apply below_drew1) | exact HB.out))) : w.heap.size ≤ gb271)); clear HB; have HB := n0_; have BK271 := n1_; have GW271 := n2_; have GE271 := n3_; clear n0_ n1_ n2_ n3_; clear hb hbox hg))
    go_ret
    exact ⟨by first | rfl | (simp [errW_none, errW_some] <;> rfl) | (simp [*, errW_none, errW_some] <;> rfl), by repeat (first | (with_reducible first | exact HB.out | apply below_alloc | apply pw_below_drewN | apply below_drew1 | refine below_set ?_ GE271.out) | exact HB.out)⟩
  · rw [if_neg c5] at H
    have c5b0 : decide (100 < (l0.length : Int)) = false := decide_eq_false c5
    have c5b1 : decide (100 < l0.length) = false := decide_eq_false (by omega)
    clear c5
    replace H := Option.bind_eq_some_iff.mp H
    obtain ⟨t272, A70, H⟩ := H
    replace H : ((dedup_Look.f k l0 a2 a3).bind fun bt275 => ((sextonref19_Look.f k t272 a2 a3).bind fun bt279 => ((dedup_Put.f k l0 a1_0 a1_1 a1_2 a1_3).bind fun bt283 => ((sextonref19_Put.f k t272 a1_0 a1_1 a1_2 a1_3).bind fun bt287 => (if (bt275.1 == bt279.1 && (bt275.2.1 == bt279.2.1)) = true then (if bt275.2.2 = bt279.2.2 then ((sextonref19_Same.f k bt283.1 bt287.1).bind fun t291 => (if t291 = true then (if bt283.2 = bt287.2 then ((dedup_Is.f k l0).bind fun t292 => ((sextonref19_Is.f k t272).bind fun t293 => (if (t292 == t293) = true then ((dedup_Last.f k l0 a2).bind fun t294 => ((sextonref19_Last.f k t272 a2).bind fun t295 => (sextonlaw19_DedupDoes.j0 k l0 t272 bt283.1 (t294 == t295)))) else (sextonlaw19_DedupDoes.j0 k l0 t272 bt283.1 false)))) else (sextonlaw19_DedupDoes.j0 k l0 t272 bt283.1 false)) else (sextonlaw19_DedupDoes.j0 k l0 t272 bt283.1 false))) else (sextonlaw19_DedupDoes.j0 k l0 t272 bt283.1 false)) else (sextonlaw19_DedupDoes.j0 k l0 t272 bt283.1 false)))))) = some r := H
    have A7 := Aside0.mk A70
    clear A70
    replace H := Option.bind_eq_some_iff.mp H
    obtain ⟨⟨t275, t276, t277⟩, A80, H⟩ := H
    replace H : ((sextonref19_Look.f k t272 a2 a3).bind fun bt279 => ((dedup_Put.f k l0 a1_0 a1_1 a1_2 a1_3).bind fun bt283 => ((sextonref19_Put.f k t272 a1_0 a1_1 a1_2 a1_3).bind fun bt287 => (if (t275 == bt279.1 && (t276 == bt279.2.1)) = true then (if t277 = bt279.2.2 then ((sextonref19_Same.f k bt283.1 bt287.1).bind fun t291 => (if t291 = true then (if bt283.2 = bt287.2 then ((dedup_Is.f k l0).bind fun t292 => ((sextonref19_Is.f k t272).bind fun t293 => (if (t292 == t293) = true then ((dedup_Last.f k l0 a2).bind fun t294 => ((sextonref19_Last.f k t272 a2).bind fun t295 => (sextonlaw19_DedupDoes.j0 k l0 t272 bt283.1 (t294 == t295)))) else (sextonlaw19_DedupDoes.j0 k l0 t272 bt283.1 false)))) else (sextonlaw19_DedupDoes.j0 k l0 t272 bt283.1 false)) else (sextonlaw19_DedupDoes.j0 k l0 t272 bt283.1 false))) else (sextonlaw19_DedupDoes.j0 k l0 t272 bt283.1 false)) else (sextonlaw19_DedupDoes.j0 k l0 t272 bt283.1 false))))) = some r := H
    have A8 := Aside0.mk A80
    clear A80
    replace H := Option.bind_eq_some_iff.mp H
    obtain ⟨⟨t279, t280, t281⟩, A90, H⟩ := H
    replace H : ((dedup_Put.f k l0 a1_0 a1_1 a1_2 a1_3).bind fun bt283 => ((sextonref19_Put.f k t272 a1_0 a1_1 a1_2 a1_3).bind fun bt287 => (if (t275 == t279 && (t276 == t280)) = true then (if t277 = t281 then ((sextonref19_Same.f k bt283.1 bt287.1).bind fun t291 => (if t291 = true then (if bt283.2 = bt287.2 then ((dedup_Is.f k l0).bind fun t292 => ((sextonref19_Is.f k t272).bind fun t293 => (if (t292 == t293) = true then ((dedup_Last.f k l0 a2).bind fun t294 => ((sextonref19_Last.f k t272 a2).bind fun t295 => (sextonlaw19_DedupDoes.j0 k l0 t272 bt283.1 (t294 == t295)))) else (sextonlaw19_DedupDoes.j0 k l0 t272 bt283.1 false)))) else (sextonlaw19_DedupDoes.j0 k l0 t272 bt283.1 false)) else (sextonlaw19_DedupDoes.j0 k l0 t272 bt283.1 false))) else (sextonlaw19_DedupDoes.j0 k l0 t272 bt283.1 false)) else (sextonlaw19_DedupDoes.j0 k l0 t272 bt283.1 false)))) = some r := H
    have A9 := Aside0.mk A90
    clear A90
    replace H := Option.bind_eq_some_iff.mp H
    obtain ⟨⟨t283, t286⟩, A100, H⟩ := H
    replace H : ((sextonref19_Put.f k t272 a1_0 a1_1 a1_2 a1_3).bind fun bt287 => (if (t275 == t279 && (t276 == t280)) = true then (if t277 = t281 then ((sextonref19_Same.f k t283 bt287.1).bind fun t291 => (if t291 = true then (if t286 = bt287.2 then ((dedup_Is.f k l0).bind fun t292 => ((sextonref19_Is.f k t272).bind fun t293 => (if (t292 == t293) = true then ((dedup_Last.f k l0 a2).bind fun t294 => ((sextonref19_Last.f k t272 a2).bind fun t295 => (sextonlaw19_DedupDoes.j0 k l0 t272 t283 (t294 == t295)))) else (sextonlaw19_DedupDoes.j0 k l0 t272 t283 false)))) else (sextonlaw19_DedupDoes.j0 k l0 t272 t283 false)) else (sextonlaw19_DedupDoes.j0 k l0 t272 t283 false))) else (sextonlaw19_DedupDoes.j0 k l0 t272 t283 false)) else (sextonlaw19_DedupDoes.j0 k l0 t272 t283 false))) = some r := H
    have A10 := Aside0.mk A100
    clear A100
    replace H := Option.bind_eq_some_iff.mp H
    obtain ⟨⟨t287, t290⟩, A110, H⟩ := H
    replace H : (if (t275 == t279 && (t276 == t280)) = true then (if t277 = t281 then ((sextonref19_Same.f k t283 t287).bind fun t291 => (if t291 = true then (if t286 = t290 then ((dedup_Is.f k l0).bind fun t292 => ((sextonref19_Is.f k t272).bind fun t293 => (if (t292 == t293) = true then ((dedup_Last.f k l0 a2).bind fun t294 => ((sextonref19_Last.f k t272 a2).bind fun t295 => (sextonlaw19_DedupDoes.j0 k l0 t272 t283 (t294 == t295)))) else (sextonlaw19_DedupDoes.j0 k l0 t272 t283 false)))) else (sextonlaw19_DedupDoes.j0 k l0 t272 t283 false)) else (sextonlaw19_DedupDoes.j0 k l0 t272 t283 false))) else (sextonlaw19_DedupDoes.j0 k l0 t272 t283 false)) else (sextonlaw19_DedupDoes.j0 k l0 t272 t283 false)) = some r := H
    have A11 := Aside0.mk A110
    clear A110
    have HC12 := Aside0.mk H
    clear H
    go_enter Try.func3, Try.ntmps3
    go_upto_region 8 with (first | ((with_reducible refine gate_dst (N := 5) rfl ?_); refine box_event ?hg (N := 5) ?hd (cs := #[.int .i64 a1_0, .int .i64 a1_1, .int .i64 a1_2, .int .i64 a1_3]) (t := 27) ?hr ?_; (case hd => rfl); (case hg => rfl); (case hr => first | (go_simp; done) | (go_simp; rfl)); intro gb271 hg w13 hbox hb; have n0_ := Aside0.mk (below_step (by repeat (first | (with_reducible first | exact HB.out | apply below_alloc | apply pw_below_drewN | apply below_drew1) | exact HB.out)) hb); have n1_ := Aside0.mk (hbox); have n2_ := Aside0.mk ((by rw [hg]; exact (below_size (by repeat (first | (with_reducible first | exact HB.out | apply below_alloc | apply pw_below_drewN | apply below_drew1) | exact HB.out))) : w.heap.size ≤ gb271)); have n3_ := Aside0.mk ((by rw [hg]; exact (below_size (by repeat (first | (with_reducible first | exact HB.out | apply below_alloc | apply pw_below_drewN | apply below_drew1) | exact HB.out))) : w.heap.size ≤ gb271)); clear HB; have HB := n0_; have BK271 := n1_; have GW271 := n2_; have GE271 := n3_; clear n0_ n1_ n2_ n3_; clear hb hbox hg) | ((with_reducible refine gate_callee (f := 7) rfl ?_); refine goesL_ (some 24) rfl rfl Try.func7 (by kernel_rfl) rfl #[.slice A0 l0.length c0] rfl (by (try simp only [List.map_toArray, List.map_cons, List.map_nil]); first | done | rfl | (simp only [List.length_drop, List.length_take]; rfl)) ?_; (with_reducible refine (sextonref19_Own.calls _ _ l0 t272 _ ?side1 ?side2 A7.out).mono ?_); (case side1 => repeat (first | exact (Kd.C_below HR0.out HB.out) | (with_reducible refine Kd.C_alloc ?_ _) | (with_reducible refine Kd.C_drewN ?_ _) | (with_reducible refine Kd.C_drew ?_))); (case side2 => exact HC0.out); rintro e w14 ⟨v273, rfl, ho0, hb⟩; refine ⟨_, rfl, ?_⟩; have n0_ := Aside0.mk (Kd.R_lower (Kd.R_newB ho0 (g := gb271) (o := .cells #[.int .i64 a1_0, .int .i64 a1_1, .int .i64 a1_2, .int .i64 a1_3] 27 (0, 0)) (by (with_reducible repeat (first | refine blk_drewN ?_ _ | refine blk_drew ?_ | refine blk_alloc ?_ _)); exact BK271.out)) (below_size (by repeat (first | (with_reducible first | exact HB.out | apply below_alloc | apply pw_below_drewN | apply below_drew1 | refine below_set ?_ GE271.out) | exact HB.out)))); have n1_ := Aside0.mk (blk_below (g := gb271) (o := .cells #[.int .i64 a1_0, .int .i64 a1_1, .int .i64 a1_2, .int .i64 a1_3] 27 (0, 0)) (by (with_reducible repeat (first | refine blk_drewN ?_ _ | refine blk_drew ?_ | refine blk_alloc ?_ _)); exact BK271.out) hb); have n2_ := Aside0.mk (below_step (by repeat (first | (with_reducible first | exact HB.out | apply below_alloc | apply pw_below_drewN | apply below_drew1 | refine below_set ?_ GE271.out) | exact HB.out)) hb); clear BK271; clear HB; have HO274 := n0_; have BK271 := n1_; have HB := n2_; clear n0_ n1_ n2_; (try clear hb); (try clear hb2); (try clear hk); (try clear hi); (try clear ho0)) | ((with_reducible refine gate_callee (f := 8) rfl ?_); refine goesL_ (some 29) rfl rfl Try.func8 (by kernel_rfl) rfl #[.slice A0 l0.length c0, .int .i64 a2, .int .i64 a3] rfl (by (try simp only [List.map_toArray, List.map_cons, List.map_nil]); first | done | rfl | (simp only [List.length_drop, List.length_take]; rfl)) ?_; (with_reducible refine (dedup_Look.calls k _ _ l0 a2 a3 t275 t276 t277 _ ?side1 ?side2 A8.out).mono ?_); (case side1 => repeat (first | exact (Kd.C_below HR0.out HB.out) | (with_reducible refine Kd.C_alloc ?_ _) | (with_reducible refine Kd.C_drewN ?_ _) | (with_reducible refine Kd.C_drew ?_))); (case side2 => exact HC0.out); rintro e w15 ⟨rfl, hb⟩; refine ⟨_, rfl, ?_⟩; have n0_ := Aside0.mk (Kd.R_below (by (with_reducible repeat (first | apply Kd.R_alloc | apply Kd.R_drewN | apply Kd.R_drew)); exact HO274.out) hb); have n1_ := Aside0.mk (blk_below (g := gb271) (o := .cells #[.int .i64 a1_0, .int .i64 a1_1, .int .i64 a1_2, .int .i64 a1_3] 27 (0, 0)) (by (with_reducible repeat (first | refine blk_drewN ?_ _ | refine blk_drew ?_ | refine blk_alloc ?_ _)); exact BK271.out) hb); have n2_ := Aside0.mk (below_step (by repeat (first | (with_reducible first | exact HB.out | apply below_alloc | apply pw_below_drewN | apply below_drew1 | refine below_set ?_ GE271.out) | exact HB.out)) hb); clear HO274; clear BK271; clear HB; have HO274 := n0_; have BK271 := n1_; have HB := n2_; clear n0_ n1_ n2_; (try clear hb); (try clear hb2); (try clear hk); (try clear hi)) | ((with_reducible refine gate_dst (N := 10) rfl ?_); refine box_event ?hg (N := 10) ?hd (cs := #[.int .i64 0, .int .i64 0]) (t := 25) ?hr ?_; (case hd => rfl); (case hg => rfl); (case hr => first | (go_simp; done) | (go_simp; rfl)); intro gb278 hg w16 hbox hb; have n0_ := Aside0.mk (Kd.R_below (by (with_reducible repeat (first | apply Kd.R_alloc | apply Kd.R_drewN | apply Kd.R_drew)); exact HO274.out) hb); have n1_ := Aside0.mk (blk_below (g := gb271) (o := .cells #[.int .i64 a1_0, .int .i64 a1_1, .int .i64 a1_2, .int .i64 a1_3] 27 (0, 0)) (by (with_reducible repeat (first | refine blk_drewN ?_ _ | refine blk_drew ?_ | refine blk_alloc ?_ _)); exact BK271.out) hb); have n2_ := Aside0.mk (below_step (by repeat (first | (with_reducible first | exact HB.out | apply below_alloc | apply pw_below_drewN | apply below_drew1 | refine below_set ?_ GE271.out) | exact HB.out)) hb); have n3_ := Aside0.mk (hbox); have n4_ := Aside0.mk ((by rw [hg]; exact (below_size (by repeat (first | (with_reducible first | exact HB.out | apply below_alloc | apply pw_below_drewN | apply below_drew1 | refine below_set ?_ GE271.out) | exact HB.out))) : w.heap.size ≤ gb278)); have n5_ := Aside0.mk ((by rw [hg]; exact (below_size (by repeat (first | (with_reducible first | exact HB.out | apply below_alloc | apply pw_below_drewN | apply below_drew1 | refine below_set ?_ GE271.out) | exact HB.out))) : w.heap.size ≤ gb278)); have n6_ := Aside0.mk ((by rw [hg]; exact Nat.ne_of_lt (blk_lt (g := gb271) (o := .cells #[.int .i64 a1_0, .int .i64 a1_1, .int .i64 a1_2, .int .i64 a1_3] 27 (0, 0)) (by (with_reducible repeat (first | refine blk_drewN ?_ _ | refine blk_drew ?_ | refine blk_alloc ?_ _)); exact BK271.out)) : gb271 ≠ gb278)); have n7_ := Aside0.mk ((by rw [hg]; exact Nat.ne_of_gt (blk_lt (g := gb271) (o := .cells #[.int .i64 a1_0, .int .i64 a1_1, .int .i64 a1_2, .int .i64 a1_3] 27 (0, 0)) (by (with_reducible repeat (first | refine blk_drewN ?_ _ | refine blk_drew ?_ | refine blk_alloc ?_ _)); exact BK271.out)) : gb278 ≠ gb271)); clear HO274; clear BK271; clear HB; have HO274 := n0_; have BK271 := n1_; have HB := n2_; have BK278 := n3_; have GW278 := n4_; have GE278 := n5_; have NB271_278 := n6_; have NB278_271 := n7_; clear n0_ n1_ n2_ n3_ n4_ n5_ n6_ n7_; clear hb hbox hg; have hnb17 := NB278_271.out; have hnc17 := NB271_278.out; have hcz18_0 : w16.cell? ⟨gb278, 0, none⟩ = some (.int .i64 0) := (blk_cell BK278.out 0).trans rfl; have hcz18_1 : w16.cell? ⟨gb278, 1, none⟩ = some (.int .i64 0) := (blk_cell BK278.out 1).trans rfl; have hfz18_0 := blk_frozen BK278.out 0; have hfz18_1 := blk_frozen BK278.out 1; obtain ⟨Ao19, co19, eo19⟩ := Kd.R_slice HO274.out; subst eo19) | ((with_reducible refine gate_callee (f := 9) rfl ?_); refine goesL_ (some 36) rfl rfl Try.func9 (by kernel_rfl) rfl #[.slice Ao19 t272.length co19, .int .i64 a2, .int .i64 a3] rfl (by (try simp only [List.map_toArray, List.map_cons, List.map_nil]); first | done | rfl | (simp only [List.length_drop, List.length_take]; rfl)) ?_; (with_reducible refine (sextonref19_Look.calls k _ _ t272 a2 a3 t279 t280 t281 _ ?side1 ?side2 A9.out).mono ?_); (case side1 => refine (Kd.R_reads' (e := 27) (base := w.heap.size) (ok := fun k_ => (True ∧ k_ ≠ gb271)) (n := t272.length) (c := co19) ?_).2.2; exact (by (with_reducible repeat (first | apply Kd.R_alloc | apply Kd.R_drewN | apply Kd.R_drew)); exact (Kd.R_mono (Kd.R_far (p := ⟨gb278, 1, none⟩) (Kd.R_far (p := ⟨gb278, 0, none⟩) (Kd.R_types HO274.out BK278.out (by decide)) (fun _ hk => hk.2) (.int .i64 t275)) (fun _ hk => hk.2) (.int .i64 t276)) (fun _ h_ => h_.1)))); (case side2 => exact (Kd.R_reads' HO274.out).2.1); rintro e w20 ⟨rfl, hb⟩; refine ⟨_, rfl, ?_⟩; have n0_ := Aside0.mk (Kd.R_below (by (with_reducible repeat (first | apply Kd.R_alloc | apply Kd.R_drewN | apply Kd.R_drew)); exact (Kd.R_mono (Kd.R_far (p := ⟨gb278, 1, none⟩) (Kd.R_far (p := ⟨gb278, 0, none⟩) (Kd.R_types HO274.out BK278.out (by decide)) (fun _ hk => hk.2) (.int .i64 t275)) (fun _ hk => hk.2) (.int .i64 t276)) (fun _ h_ => h_.1))) hb); have n1_ := Aside0.mk (blk_below (g := gb271) (o := .cells #[.int .i64 a1_0, .int .i64 a1_1, .int .i64 a1_2, .int .i64 a1_3] 27 (0, 0)) (by (with_reducible repeat (first | refine blk_drewN ?_ _ | refine blk_drew ?_ | refine blk_alloc ?_ _)); refine blk_far ?_ NB271_278.out _; (with_reducible repeat (first | refine blk_drewN ?_ _ | refine blk_drew ?_ | refine blk_alloc ?_ _)); refine blk_far ?_ NB271_278.out _; (with_reducible repeat (first | refine blk_drewN ?_ _ | refine blk_drew ?_ | refine blk_alloc ?_ _)); exact BK271.out) hb); have n2_ := Aside0.mk (blk_below (g := gb278) (o := .cells #[.int .i64 t275, .int .i64 t276] 25 (0, 0)) (by (with_reducible repeat (first | refine blk_drewN ?_ _ | refine blk_drew ?_ | refine blk_alloc ?_ _)); refine blk_put (cs := #[.int .i64 t275, .int .i64 0]) ?_ 1 _ rfl; (with_reducible repeat (first | refine blk_drewN ?_ _ | refine blk_drew ?_ | refine blk_alloc ?_ _)); refine blk_put (cs := #[.int .i64 0, .int .i64 0]) ?_ 0 _ rfl; (with_reducible repeat (first | refine blk_drewN ?_ _ | refine blk_drew ?_ | refine blk_alloc ?_ _)); exact BK278.out) hb); have n3_ := Aside0.mk (below_step (by repeat (first | (with_reducible first | exact HB.out | apply below_alloc | apply pw_below_drewN | apply below_drew1 | refine below_set ?_ GE271.out | refine below_set ?_ GE278.out) | exact HB.out)) hb); clear HO274; clear BK271; clear BK278; clear HB; have HO274 := n0_; have BK271 := n1_; have BK278 := n2_; have HB := n3_; clear n0_ n1_ n2_ n3_; (try clear hb); (try clear hb2); (try clear hk); (try clear hi)) | ((with_reducible refine gate_dst (N := 12) rfl ?_); refine box_event ?hg (N := 12) ?hd (cs := #[.int .i64 0, .int .i64 0]) (t := 25) ?hr ?_; (case hd => rfl); (case hg => rfl); (case hr => first | (go_simp; done) | (go_simp; rfl)); intro gb282 hg w21 hbox hb; have n0_ := Aside0.mk (Kd.R_below (by (with_reducible repeat (first | apply Kd.R_alloc | apply Kd.R_drewN | apply Kd.R_drew)); exact HO274.out) hb); have n1_ := Aside0.mk (blk_below (g := gb271) (o := .cells #[.int .i64 a1_0, .int .i64 a1_1, .int .i64 a1_2, .int .i64 a1_3] 27 (0, 0)) (by (with_reducible repeat (first | refine blk_drewN ?_ _ | refine blk_drew ?_ | refine blk_alloc ?_ _)); exact BK271.out) hb); have n2_ := Aside0.mk (blk_below (g := gb278) (o := .cells #[.int .i64 t275, .int .i64 t276] 25 (0, 0)) (by (with_reducible repeat (first | refine blk_drewN ?_ _ | refine blk_drew ?_ | refine blk_alloc ?_ _)); exact BK278.out) hb); have n3_ := Aside0.mk (below_step (by repeat (first | (with_reducible first | exact HB.out | apply below_alloc | apply pw_below_drewN | apply below_drew1 | refine below_set ?_ GE271.out | refine below_set ?_ GE278.out) | exact HB.out)) hb); have n4_ := Aside0.mk (hbox); have n5_ := Aside0.mk ((by rw [hg]; exact (below_size (by repeat (first | (with_reducible first | exact HB.out | apply below_alloc | apply pw_below_drewN | apply below_drew1 | refine below_set ?_ GE271.out | refine below_set ?_ GE278.out) | exact HB.out))) : w.heap.size ≤ gb282)); have n6_ := Aside0.mk ((by rw [hg]; exact (below_size (by repeat (first | (with_reducible first | exact HB.out | apply below_alloc | apply pw_below_drewN | apply below_drew1 | refine below_set ?_ GE271.out | refine below_set ?_ GE278.out) | exact HB.out))) : w.heap.size ≤ gb282)); have n7_ := Aside0.mk ((by rw [hg]; exact Nat.ne_of_lt (blk_lt (g := gb271) (o := .cells #[.int .i64 a1_0, .int .i64 a1_1, .int .i64 a1_2, .int .i64 a1_3] 27 (0, 0)) (by (with_reducible repeat (first | refine blk_drewN ?_ _ | refine blk_drew ?_ | refine blk_alloc ?_ _)); exact BK271.out)) : gb271 ≠ gb282)); have n8_ := Aside0.mk ((by rw [hg]; exact Nat.ne_of_gt (blk_lt (g := gb271) (o := .cells #[.int .i64 a1_0, .int .i64 a1_1, .int .i64 a1_2, .int .i64 a1_3] 27 (0, 0)) (by (with_reducible repeat (first | refine blk_drewN ?_ _ | refine blk_drew ?_ | refine blk_alloc ?_ _)); exact BK271.out)) : gb282 ≠ gb271)); have n9_ := Aside0.mk ((by rw [hg]; exact Nat.ne_of_lt (blk_lt (g := gb278) (o := .cells #[.int .i64 t275, .int .i64 t276] 25 (0, 0)) (by (with_reducible repeat (first | refine blk_drewN ?_ _ | refine blk_drew ?_ | refine blk_alloc ?_ _)); exact BK278.out)) : gb278 ≠ gb282)); have n10_ := Aside0.mk ((by rw [hg]; exact Nat.ne_of_gt (blk_lt (g := gb278) (o := .cells #[.int .i64 t275, .int .i64 t276] 25 (0, 0)) (by (with_reducible repeat (first | refine blk_drewN ?_ _ | refine blk_drew ?_ | refine blk_alloc ?_ _)); exact BK278.out)) : gb282 ≠ gb278)); clear HO274; clear BK271; clear BK278; clear HB; have HO274 := n0_; have BK271 := n1_; have BK278 := n2_; have HB := n3_; have BK282 := n4_; have GW282 := n5_; have GE282 := n6_; have NB271_282 := n7_; have NB282_271 := n8_; have NB278_282 := n9_; have NB282_278 := n10_; clear n0_ n1_ n2_ n3_ n4_ n5_ n6_ n7_ n8_ n9_ n10_; clear hb hbox hg; have hnb22 := NB282_271.out; have hnc22 := NB271_282.out; have hnb23 := NB282_278.out; have hnc23 := NB278_282.out; have hcz24_0 : w21.cell? ⟨gb282, 0, none⟩ = some (.int .i64 0) := (blk_cell BK282.out 0).trans rfl; have hcz24_1 : w21.cell? ⟨gb282, 1, none⟩ = some (.int .i64 0) := (blk_cell BK282.out 1).trans rfl; have hfz24_0 := blk_frozen BK282.out 0; have hfz24_1 := blk_frozen BK282.out 1; have hcz25_0 : w21.cell? ⟨gb271, 0, none⟩ = some (.int .i64 a1_0) := (blk_cell BK271.out 0).trans rfl; have hcz25_1 : w21.cell? ⟨gb271, 1, none⟩ = some (.int .i64 a1_1) := (blk_cell BK271.out 1).trans rfl; have hcz25_2 : w21.cell? ⟨gb271, 2, none⟩ = some (.int .i64 a1_2) := (blk_cell BK271.out 2).trans rfl; have hcz25_3 : w21.cell? ⟨gb271, 3, none⟩ = some (.int .i64 a1_3) := (blk_cell BK271.out 3).trans rfl; have hfz25_0 := blk_frozen BK271.out 0; have hfz25_1 := blk_frozen BK271.out 1; have hfz25_2 := blk_frozen BK271.out 2; have hfz25_3 := blk_frozen BK271.out 3) | ((with_reducible refine gate_callee (f := 10) rfl ?_); refine goesL_ (some 42) rfl rfl Try.func10 (by kernel_rfl) rfl #[.slice A0 l0.length c0, .agg #[.int .i64 a1_0, .int .i64 a1_1, .int .i64 a1_2, .int .i64 a1_3]] rfl (by (try simp only [List.map_toArray, List.map_cons, List.map_nil]); first | done | rfl | (simp only [List.length_drop, List.length_take]; rfl)) ?_; (with_reducible refine (dedup_Put.calls k _ _ l0 a1_0 a1_1 a1_2 a1_3 t283 t286 _ ?side1 ?side2 A10.out).mono ?_); (case side1 => exact Kd.C_below HR0.out (by repeat (first | (with_reducible first | exact HB.out | apply below_alloc | apply pw_below_drewN | apply below_drew1 | refine below_set ?_ GE271.out | refine below_set ?_ GE278.out | refine below_set ?_ GE282.out) | exact HB.out))); (case side2 => exact HC0.out); rintro e w26 ⟨v284, rfl, ho0, hb⟩; refine ⟨_, rfl, ?_⟩; have n0_ := Aside0.mk (Kd.R_elder' (by (with_reducible repeat (first | apply Kd.R_alloc | apply Kd.R_drewN | apply Kd.R_drew)); exact (Kd.R_mono (Kd.R_far (p := ⟨gb282, 1, none⟩) (Kd.R_far (p := ⟨gb282, 0, none⟩) (Kd.R_types HO274.out BK282.out (by decide)) (fun _ hk => hk.2) (.int .i64 t279)) (fun _ hk => hk.2) (.int .i64 t280)) (fun _ h_ => h_.1))) (Kd.R_base ho0) hb); have n1_ := Aside0.mk (Kd.R_lower (Kd.R_newB (Kd.R_new' ho0 (Kd.R_lt (by (with_reducible repeat (first | apply Kd.R_alloc | apply Kd.R_drewN | apply Kd.R_drew)); exact (Kd.R_mono (Kd.R_far (p := ⟨gb282, 1, none⟩) (Kd.R_far (p := ⟨gb282, 0, none⟩) (Kd.R_types HO274.out BK282.out (by decide)) (fun _ hk => hk.2) (.int .i64 t279)) (fun _ hk => hk.2) (.int .i64 t280)) (fun _ h_ => h_.1))))) (g := gb271) (o := .cells #[.int .i64 a1_0, .int .i64 a1_1, .int .i64 a1_2, .int .i64 a1_3] 27 (0, 0)) (by (with_reducible repeat (first | refine blk_drewN ?_ _ | refine blk_drew ?_ | refine blk_alloc ?_ _)); refine blk_far ?_ NB271_282.out _; (with_reducible repeat (first | refine blk_drewN ?_ _ | refine blk_drew ?_ | refine blk_alloc ?_ _)); refine blk_far ?_ NB271_282.out _; (with_reducible repeat (first | refine blk_drewN ?_ _ | refine blk_drew ?_ | refine blk_alloc ?_ _)); exact BK271.out)) (below_size (by repeat (first | (with_reducible first | exact HB.out | apply below_alloc | apply pw_below_drewN | apply below_drew1 | refine below_set ?_ GE271.out | refine below_set ?_ GE278.out | refine below_set ?_ GE282.out) | exact HB.out)))); have n2_ := Aside0.mk (blk_below (g := gb271) (o := .cells #[.int .i64 a1_0, .int .i64 a1_1, .int .i64 a1_2, .int .i64 a1_3] 27 (0, 0)) (by (with_reducible repeat (first | refine blk_drewN ?_ _ | refine blk_drew ?_ | refine blk_alloc ?_ _)); refine blk_far ?_ NB271_282.out _; (with_reducible repeat (first | refine blk_drewN ?_ _ | refine blk_drew ?_ | refine blk_alloc ?_ _)); refine blk_far ?_ NB271_282.out _; (with_reducible repeat (first | refine blk_drewN ?_ _ | refine blk_drew ?_ | refine blk_alloc ?_ _)); exact BK271.out) hb); have n3_ := Aside0.mk (blk_below (g := gb278) (o := .cells #[.int .i64 t275, .int .i64 t276] 25 (0, 0)) (by (with_reducible repeat (first | refine blk_drewN ?_ _ | refine blk_drew ?_ | refine blk_alloc ?_ _)); refine blk_far ?_ NB278_282.out _; (with_reducible repeat (first | refine blk_drewN ?_ _ | refine blk_drew ?_ | refine blk_alloc ?_ _)); refine blk_far ?_ NB278_282.out _; (with_reducible repeat (first | refine blk_drewN ?_ _ | refine blk_drew ?_ | refine blk_alloc ?_ _)); exact BK278.out) hb); have n4_ := Aside0.mk (blk_below (g := gb282) (o := .cells #[.int .i64 t279, .int .i64 t280] 25 (0, 0)) (by (with_reducible repeat (first | refine blk_drewN ?_ _ | refine blk_drew ?_ | refine blk_alloc ?_ _)); refine blk_put (cs := #[.int .i64 t279, .int .i64 0]) ?_ 1 _ rfl; (with_reducible repeat (first | refine blk_drewN ?_ _ | refine blk_drew ?_ | refine blk_alloc ?_ _)); refine blk_put (cs := #[.int .i64 0, .int .i64 0]) ?_ 0 _ rfl; (with_reducible repeat (first | refine blk_drewN ?_ _ | refine blk_drew ?_ | refine blk_alloc ?_ _)); exact BK282.out) hb); have n5_ := Aside0.mk (below_step (by repeat (first | (with_reducible first | exact HB.out | apply below_alloc | apply pw_below_drewN | apply below_drew1 | refine below_set ?_ GE271.out | refine below_set ?_ GE278.out | refine below_set ?_ GE282.out) | exact HB.out)) hb); clear HO274; clear BK271; clear BK278; clear BK282; clear HB; have HO274 := n0_; have HO285 := n1_; have BK271 := n2_; have BK278 := n3_; have BK282 := n4_; have HB := n5_; clear n0_ n1_ n2_ n3_ n4_ n5_; (try clear hb); (try clear hb2); (try clear hk); (try clear hi); (try clear ho0); have hcz27_0 : w26.cell? ⟨gb271, 0, none⟩ = some (.int .i64 a1_0) := (blk_cell BK271.out 0).trans rfl; have hcz27_1 : w26.cell? ⟨gb271, 1, none⟩ = some (.int .i64 a1_1) := (blk_cell BK271.out 1).trans rfl; have hcz27_2 : w26.cell? ⟨gb271, 2, none⟩ = some (.int .i64 a1_2) := (blk_cell BK271.out 2).trans rfl; have hcz27_3 : w26.cell? ⟨gb271, 3, none⟩ = some (.int .i64 a1_3) := (blk_cell BK271.out 3).trans rfl; have hfz27_0 := blk_frozen BK271.out 0; have hfz27_1 := blk_frozen BK271.out 1; have hfz27_2 := blk_frozen BK271.out 2; have hfz27_3 := blk_frozen BK271.out 3) | ((with_reducible refine gate_callee (f := 11) rfl ?_); refine goesL_ (some 48) rfl rfl Try.func11 (by kernel_rfl) rfl #[.slice Ao19 t272.length co19, .agg #[.int .i64 a1_0, .int .i64 a1_1, .int .i64 a1_2, .int .i64 a1_3]] rfl (by (try simp only [List.map_toArray, List.map_cons, List.map_nil]); first | done | rfl | (simp only [List.length_drop, List.length_take]; rfl)) ?_; (with_reducible refine (sextonref19_Put.calls k _ _ t272 a1_0 a1_1 a1_2 a1_3 t287 t290 _ ?side1 ?side2 A11.out).mono ?_); (case side1 => repeat (first | exact (Kd.R_reads' HO274.out).2.2 | (with_reducible refine Kd.C_alloc ?_ _) | (with_reducible refine Kd.C_drewN ?_ _) | (with_reducible refine Kd.C_drew ?_))); (case side2 => exact (Kd.R_reads' HO274.out).2.1); rintro e w28 ⟨v288, rfl, ho0, hb⟩; refine ⟨_, rfl, ?_⟩; have n0_ := Aside0.mk (Kd.R_elder' (by (with_reducible repeat (first | apply Kd.R_alloc | apply Kd.R_drewN | apply Kd.R_drew)); exact HO274.out) (Kd.R_base ho0) hb); have n1_ := Aside0.mk (Kd.R_elder' (by (with_reducible repeat (first | apply Kd.R_alloc | apply Kd.R_drewN | apply Kd.R_drew)); exact HO285.out) (Kd.R_base ho0) hb); have n2_ := Aside0.mk (Kd.R_lower (Kd.R_newB (Kd.R_new' (Kd.R_new' ho0 (Kd.R_lt (by (with_reducible repeat (first | apply Kd.R_alloc | apply Kd.R_drewN | apply Kd.R_drew)); exact HO274.out))) (Kd.R_lt (by (with_reducible repeat (first | apply Kd.R_alloc | apply Kd.R_drewN | apply Kd.R_drew)); exact HO285.out))) (g := gb271) (o := .cells #[.int .i64 a1_0, .int .i64 a1_1, .int .i64 a1_2, .int .i64 a1_3] 27 (0, 0)) (by (with_reducible repeat (first | refine blk_drewN ?_ _ | refine blk_drew ?_ | refine blk_alloc ?_ _)); exact BK271.out)) (below_size (by repeat (first | (with_reducible first | exact HB.out | apply below_alloc | apply pw_below_drewN | apply below_drew1 | refine below_set ?_ GE271.out | refine below_set ?_ GE278.out | refine below_set ?_ GE282.out) | exact HB.out)))); have n3_ := Aside0.mk (blk_below (g := gb271) (o := .cells #[.int .i64 a1_0, .int .i64 a1_1, .int .i64 a1_2, .int .i64 a1_3] 27 (0, 0)) (by (with_reducible repeat (first | refine blk_drewN ?_ _ | refine blk_drew ?_ | refine blk_alloc ?_ _)); exact BK271.out) hb); have n4_ := Aside0.mk (blk_below (g := gb278) (o := .cells #[.int .i64 t275, .int .i64 t276] 25 (0, 0)) (by (with_reducible repeat (first | refine blk_drewN ?_ _ | refine blk_drew ?_ | refine blk_alloc ?_ _)); exact BK278.out) hb); have n5_ := Aside0.mk (blk_below (g := gb282) (o := .cells #[.int .i64 t279, .int .i64 t280] 25 (0, 0)) (by (with_reducible repeat (first | refine blk_drewN ?_ _ | refine blk_drew ?_ | refine blk_alloc ?_ _)); exact BK282.out) hb); have n6_ := Aside0.mk (below_step (by repeat (first | (with_reducible first | exact HB.out | apply below_alloc | apply pw_below_drewN | apply below_drew1 | refine below_set ?_ GE271.out | refine below_set ?_ GE278.out | refine below_set ?_ GE282.out) | exact HB.out)) hb); clear HO274; clear HO285; clear BK271; clear BK278; clear BK282; clear HB; have HO274 := n0_; have HO285 := n1_; have HO289 := n2_; have BK271 := n3_; have BK278 := n4_; have BK282 := n5_; have HB := n6_; clear n0_ n1_ n2_ n3_ n4_ n5_ n6_; (try clear hb); (try clear hb2); (try clear hk); (try clear hi); (try clear ho0)))
    (try simp only [Act.put, List.setIfInBounds_toArray, List.set_cons_zero, List.set_cons_succ])
    go_cut [18] (fun v18 wc => ∃ (kq : Nat) (x18_11 : Bool), v18 = .bool x18_11 ∧ Aside0 (sextonlaw19_DedupDoes.j0 kq l0 t272 t283 x18_11 = some r) ∧ Aside0 (kq ≤ k) ∧ Aside0 (Kd.R k27 27 wc w.heap.size (fun k_ => some k_ ≠ (v284 : Value).ownBlock ∧ k_ ≠ gb271) (.slice Ao19 t272.length co19) t272) ∧ Aside0 (Kd.R k27 27 wc w.heap.size (fun k_ => some k_ ≠ ((.slice Ao19 t272.length co19) : Value).ownBlock ∧ k_ ≠ gb271) v284 t283) ∧ Aside0 (wc.heap[gb271]? = some (.cells #[.int .i64 a1_0, .int .i64 a1_1, .int .i64 a1_2, .int .i64 a1_3] 27 (0, 0))) ∧ Aside0 (wc.heap[gb278]? = some (.cells #[.int .i64 t275, .int .i64 t276] 25 (0, 0))) ∧ Aside0 (wc.heap[gb282]? = some (.cells #[.int .i64 t279, .int .i64 t280] 25 (0, 0))) ∧ Aside0 (Below w.heap.size w wc))
    case first =>
      have H := HC12.out
      clear HC12
      by_cases c29 : (t275 == t279 && (t276 == t280)) = true
      · rw [if_pos c29] at H
        have c29b0 : (t275 == t279 && (t276 == t280)) = true := c29
        (try (have c29b1 : decide (t275 = t279 && (t276 == t280)) = true := by simpa using c29))
        (try (have c29b2 : (t275 == t279 && (t276 == t280)) = true := by simpa using c29))
        clear c29
        (first | rw [c29b0] | (simp only [i64_w, i32_w]; rw [c29b0]) | skip)
        by_cases c30 : t277 = t281
        · rw [if_pos c30] at H
          have c30b0 : (t277 == t281) = true := beq_iff_eq.mpr c30
          have c30b1 : (t277 != t281) = false := bne_eq_false_iff_eq.mpr c30
          clear c30
          replace H := Option.bind_eq_some_iff.mp H
          obtain ⟨t291, A310, H⟩ := H
          replace H : (if t291 = true then (if t286 = t290 then ((dedup_Is.f k l0).bind fun t292 => ((sextonref19_Is.f k t272).bind fun t293 => (if (t292 == t293) = true then ((dedup_Last.f k l0 a2).bind fun t294 => ((sextonref19_Last.f k t272 a2).bind fun t295 => (sextonlaw19_DedupDoes.j0 k l0 t272 t283 (t294 == t295)))) else (sextonlaw19_DedupDoes.j0 k l0 t272 t283 false)))) else (sextonlaw19_DedupDoes.j0 k l0 t272 t283 false)) else (sextonlaw19_DedupDoes.j0 k l0 t272 t283 false)) = some r := H
          have A31 := Aside0.mk A310
          clear A310
          by_cases c32 : t291 = true
          · subst c32
            have H1 : (if t286 = t290 then ((dedup_Is.f k l0).bind fun t292 => ((sextonref19_Is.f k t272).bind fun t293 => (if (t292 == t293) = true then ((dedup_Last.f k l0 a2).bind fun t294 => ((sextonref19_Last.f k t272 a2).bind fun t295 => (sextonlaw19_DedupDoes.j0 k l0 t272 t283 (t294 == t295)))) else (sextonlaw19_DedupDoes.j0 k l0 t272 t283 false)))) else (sextonlaw19_DedupDoes.j0 k l0 t272 t283 false)) = some r := by rw [if_pos rfl] at H; exact H
            clear H
            have H := H1
            clear H1
            by_cases c33 : t286 = t290
            · rw [if_pos c33] at H
              have c33b0 : (t286 == t290) = true := beq_iff_eq.mpr c33
              have c33b1 : (t286 != t290) = false := bne_eq_false_iff_eq.mpr c33
              clear c33
              replace H := Option.bind_eq_some_iff.mp H
              obtain ⟨t292, A340, H⟩ := H
              replace H : ((sextonref19_Is.f k t272).bind fun t293 => (if (t292 == t293) = true then ((dedup_Last.f k l0 a2).bind fun t294 => ((sextonref19_Last.f k t272 a2).bind fun t295 => (sextonlaw19_DedupDoes.j0 k l0 t272 t283 (t294 == t295)))) else (sextonlaw19_DedupDoes.j0 k l0 t272 t283 false))) = some r := H
              have A34 := Aside0.mk A340
              clear A340
              replace H := Option.bind_eq_some_iff.mp H
              obtain ⟨t293, A350, H⟩ := H
              replace H : (if (t292 == t293) = true then ((dedup_Last.f k l0 a2).bind fun t294 => ((sextonref19_Last.f k t272 a2).bind fun t295 => (sextonlaw19_DedupDoes.j0 k l0 t272 t283 (t294 == t295)))) else (sextonlaw19_DedupDoes.j0 k l0 t272 t283 false)) = some r := H
              have A35 := Aside0.mk A350
              clear A350
              by_cases c36 : (t292 == t293) = true
              · rw [if_pos c36] at H
                have c36b0 : (t292 == t293) = true := c36
                (try (have c36b1 : decide (t292 = t293) = true := by simpa using c36))
                (try (have c36b2 : (t292 == t293) = true := by simpa using c36))
                clear c36
                replace H := Option.bind_eq_some_iff.mp H
                obtain ⟨t294, A370, H⟩ := H
                replace H : ((sextonref19_Last.f k t272 a2).bind fun t295 => (sextonlaw19_DedupDoes.j0 k l0 t272 t283 (t294 == t295))) = some r := H
                have A37 := Aside0.mk A370
                clear A370
                replace H := Option.bind_eq_some_iff.mp H
                obtain ⟨t295, A380, H⟩ := H
                replace H : (sextonlaw19_DedupDoes.j0 k l0 t272 t283 (t294 == t295)) = some r := H
                have A38 := Aside0.mk A380
                clear A380
                have H' := Aside0.mk H
                clear H
                have hnb39 := NB278_271.out
                have hnc39 := NB271_278.out
                have hnb40 := NB278_282.out
                have hnc40 := NB282_278.out
                have hcz41_0 : w28.cell? ⟨gb278, 0, none⟩ = some (.int .i64 t275) := (blk_cell BK278.out 0).trans rfl
                have hcz41_1 : w28.cell? ⟨gb278, 1, none⟩ = some (.int .i64 t276) := (blk_cell BK278.out 1).trans rfl
                have hfz41_0 := blk_frozen BK278.out 0
                have hfz41_1 := blk_frozen BK278.out 1
                have hnb42 := NB282_271.out
                have hnc42 := NB271_282.out
                have hcz43_0 : w28.cell? ⟨gb282, 0, none⟩ = some (.int .i64 t279) := (blk_cell BK282.out 0).trans rfl
                have hcz43_1 : w28.cell? ⟨gb282, 1, none⟩ = some (.int .i64 t280) := (blk_cell BK282.out 1).trans rfl
                have hfz43_0 := blk_frozen BK282.out 0
                have hfz43_1 := blk_frozen BK282.out 1
                obtain ⟨Ao44, co44, eo44⟩ := Kd.R_slice HO285.out
                subst eo44
                obtain ⟨Ao45, co45, eo45⟩ := Kd.R_slice HO289.out
                subst eo45
                go_wp2_with (first | (go_at_call 12; (with_reducible refine (sextonref19_Same.calls k _ _ t283 _ _ t287 true _ ?side1 ?side2 ?side3 ?side4 A31.out).mono ?_); (case side1 => repeat (first | exact (Kd.R_reads' HO285.out).2.2 | (with_reducible refine Kd.C_alloc ?_ _) | (with_reducible refine Kd.C_drewN ?_ _) | (with_reducible refine Kd.C_drew ?_))); (case side2 => exact (Kd.R_reads' HO285.out).2.1); (case side3 => repeat (first | exact (Kd.R_reads' HO289.out).2.2 | (with_reducible refine Kd.C_alloc ?_ _) | (with_reducible refine Kd.C_drewN ?_ _) | (with_reducible refine Kd.C_drew ?_))); (case side4 => exact (Kd.R_reads' HO289.out).2.1); rintro e w' ⟨rfl, ⟨nd, rfl⟩⟩) | (go_at_call 13; (with_reducible refine (dedup_Is.calls k _ _ l0 t292 _ ?side1 ?side2 A34.out).mono ?_); (case side1 => repeat (first | exact (Kd.C_below HR0.out (by repeat (first | (with_reducible first | exact HB.out | apply below_alloc | apply pw_below_drewN | apply below_drew1 | refine below_set ?_ GE271.out | refine below_set ?_ GE278.out | refine below_set ?_ GE282.out) | exact HB.out))) | (with_reducible refine Kd.C_alloc ?_ _) | (with_reducible refine Kd.C_drewN ?_ _) | (with_reducible refine Kd.C_drew ?_))); (case side2 => exact HC0.out); rintro e w46 ⟨rfl, hb⟩; have n0_ := Aside0.mk (Kd.R_below (by (with_reducible repeat (first | apply Kd.R_alloc | apply Kd.R_drewN | apply Kd.R_drew)); exact HO274.out) hb); have n1_ := Aside0.mk (Kd.R_below (by (with_reducible repeat (first | apply Kd.R_alloc | apply Kd.R_drewN | apply Kd.R_drew)); exact HO285.out) hb); have n2_ := Aside0.mk (Kd.R_below (by (with_reducible repeat (first | apply Kd.R_alloc | apply Kd.R_drewN | apply Kd.R_drew)); exact HO289.out) hb); have n3_ := Aside0.mk (blk_below (g := gb271) (o := .cells #[.int .i64 a1_0, .int .i64 a1_1, .int .i64 a1_2, .int .i64 a1_3] 27 (0, 0)) (by (with_reducible repeat (first | refine blk_drewN ?_ _ | refine blk_drew ?_ | refine blk_alloc ?_ _)); exact BK271.out) hb); have n4_ := Aside0.mk (blk_below (g := gb278) (o := .cells #[.int .i64 t275, .int .i64 t276] 25 (0, 0)) (by (with_reducible repeat (first | refine blk_drewN ?_ _ | refine blk_drew ?_ | refine blk_alloc ?_ _)); exact BK278.out) hb); have n5_ := Aside0.mk (blk_below (g := gb282) (o := .cells #[.int .i64 t279, .int .i64 t280] 25 (0, 0)) (by (with_reducible repeat (first | refine blk_drewN ?_ _ | refine blk_drew ?_ | refine blk_alloc ?_ _)); exact BK282.out) hb); have n6_ := Aside0.mk (below_step (by repeat (first | (with_reducible first | exact HB.out | apply below_alloc | apply pw_below_drewN | apply below_drew1 | refine below_set ?_ GE271.out | refine below_set ?_ GE278.out | refine below_set ?_ GE282.out) | exact HB.out)) hb); clear HO274; clear HO285; clear HO289; clear BK271; clear BK278; clear BK282; clear HB; have HO274 := n0_; have HO285 := n1_; have HO289 := n2_; have BK271 := n3_; have BK278 := n4_; have BK282 := n5_; have HB := n6_; clear n0_ n1_ n2_ n3_ n4_ n5_ n6_; (try clear hb); (try clear hb2); (try clear hk); (try clear hi)) | (go_at_call 14; (with_reducible refine (sextonref19_Is.calls k _ _ t272 t293 _ ?side1 ?side2 A35.out).mono ?_); (case side1 => repeat (first | exact (Kd.R_reads' HO274.out).2.2 | (with_reducible refine Kd.C_alloc ?_ _) | (with_reducible refine Kd.C_drewN ?_ _) | (with_reducible refine Kd.C_drew ?_))); (case side2 => exact (Kd.R_reads' HO274.out).2.1); rintro e w47 ⟨rfl, hb⟩; have n0_ := Aside0.mk (Kd.R_below (by (with_reducible repeat (first | apply Kd.R_alloc | apply Kd.R_drewN | apply Kd.R_drew)); exact HO274.out) hb); have n1_ := Aside0.mk (Kd.R_below (by (with_reducible repeat (first | apply Kd.R_alloc | apply Kd.R_drewN | apply Kd.R_drew)); exact HO285.out) hb); have n2_ := Aside0.mk (Kd.R_below (by (with_reducible repeat (first | apply Kd.R_alloc | apply Kd.R_drewN | apply Kd.R_drew)); exact HO289.out) hb); have n3_ := Aside0.mk (blk_below (g := gb271) (o := .cells #[.int .i64 a1_0, .int .i64 a1_1, .int .i64 a1_2, .int .i64 a1_3] 27 (0, 0)) (by (with_reducible repeat (first | refine blk_drewN ?_ _ | refine blk_drew ?_ | refine blk_alloc ?_ _)); exact BK271.out) hb); have n4_ := Aside0.mk (blk_below (g := gb278) (o := .cells #[.int .i64 t275, .int .i64 t276] 25 (0, 0)) (by (with_reducible repeat (first | refine blk_drewN ?_ _ | refine blk_drew ?_ | refine blk_alloc ?_ _)); exact BK278.out) hb); have n5_ := Aside0.mk (blk_below (g := gb282) (o := .cells #[.int .i64 t279, .int .i64 t280] 25 (0, 0)) (by (with_reducible repeat (first | refine blk_drewN ?_ _ | refine blk_drew ?_ | refine blk_alloc ?_ _)); exact BK282.out) hb); have n6_ := Aside0.mk (below_step (by repeat (first | (with_reducible first | exact HB.out | apply below_alloc | apply pw_below_drewN | apply below_drew1 | refine below_set ?_ GE271.out | refine below_set ?_ GE278.out | refine below_set ?_ GE282.out) | exact HB.out)) hb); clear HO274; clear HO285; clear HO289; clear BK271; clear BK278; clear BK282; clear HB; have HO274 := n0_; have HO285 := n1_; have HO289 := n2_; have BK271 := n3_; have BK278 := n4_; have BK282 := n5_; have HB := n6_; clear n0_ n1_ n2_ n3_ n4_ n5_ n6_; (try clear hb); (try clear hb2); (try clear hk); (try clear hi)) | (go_at_call 15; (with_reducible refine (dedup_Last.calls k _ _ l0 a2 t294 _ ?side1 ?side2 A37.out).mono ?_); (case side1 => repeat (first | exact (Kd.C_below HR0.out HB.out) | (with_reducible refine Kd.C_alloc ?_ _) | (with_reducible refine Kd.C_drewN ?_ _) | (with_reducible refine Kd.C_drew ?_))); (case side2 => exact HC0.out); rintro e w48 ⟨rfl, hb⟩; have n0_ := Aside0.mk (Kd.R_below (by (with_reducible repeat (first | apply Kd.R_alloc | apply Kd.R_drewN | apply Kd.R_drew)); exact HO274.out) hb); have n1_ := Aside0.mk (Kd.R_below (by (with_reducible repeat (first | apply Kd.R_alloc | apply Kd.R_drewN | apply Kd.R_drew)); exact HO285.out) hb); have n2_ := Aside0.mk (Kd.R_below (by (with_reducible repeat (first | apply Kd.R_alloc | apply Kd.R_drewN | apply Kd.R_drew)); exact HO289.out) hb); have n3_ := Aside0.mk (blk_below (g := gb271) (o := .cells #[.int .i64 a1_0, .int .i64 a1_1, .int .i64 a1_2, .int .i64 a1_3] 27 (0, 0)) (by (with_reducible repeat (first | refine blk_drewN ?_ _ | refine blk_drew ?_ | refine blk_alloc ?_ _)); exact BK271.out) hb); have n4_ := Aside0.mk (blk_below (g := gb278) (o := .cells #[.int .i64 t275, .int .i64 t276] 25 (0, 0)) (by (with_reducible repeat (first | refine blk_drewN ?_ _ | refine blk_drew ?_ | refine blk_alloc ?_ _)); exact BK278.out) hb); have n5_ := Aside0.mk (blk_below (g := gb282) (o := .cells #[.int .i64 t279, .int .i64 t280] 25 (0, 0)) (by (with_reducible repeat (first | refine blk_drewN ?_ _ | refine blk_drew ?_ | refine blk_alloc ?_ _)); exact BK282.out) hb); have n6_ := Aside0.mk (below_step (by repeat (first | (with_reducible first | exact HB.out | apply below_alloc | apply pw_below_drewN | apply below_drew1 | refine below_set ?_ GE271.out | refine below_set ?_ GE278.out | refine below_set ?_ GE282.out) | exact HB.out)) hb); clear HO274; clear HO285; clear HO289; clear BK271; clear BK278; clear BK282; clear HB; have HO274 := n0_; have HO285 := n1_; have HO289 := n2_; have BK271 := n3_; have BK278 := n4_; have BK282 := n5_; have HB := n6_; clear n0_ n1_ n2_ n3_ n4_ n5_ n6_; (try clear hb); (try clear hb2); (try clear hk); (try clear hi)) | (go_at_call 16; (with_reducible refine (sextonref19_Last.calls k _ _ t272 a2 t295 _ ?side1 ?side2 A38.out).mono ?_); (case side1 => repeat (first | exact (Kd.R_reads' HO274.out).2.2 | (with_reducible refine Kd.C_alloc ?_ _) | (with_reducible refine Kd.C_drewN ?_ _) | (with_reducible refine Kd.C_drew ?_))); (case side2 => exact (Kd.R_reads' HO274.out).2.1); rintro e w' ⟨rfl, ⟨nd, rfl⟩⟩))
                go_meet
                case rel => exact ⟨_, ((t294 == t295)), (by first | rfl | (simp; done) | (simp [*]; done)), H', ⟨by first | omega | exact Nat.le_refl _⟩, ⟨by (with_reducible repeat (first | apply Kd.R_alloc | apply Kd.R_drewN | apply Kd.R_drew)); exact Kd.R_mono HO274.out (fun _ hk => ⟨hk.1.2, hk.1.1.2⟩)⟩, ⟨by (with_reducible repeat (first | apply Kd.R_alloc | apply Kd.R_drewN | apply Kd.R_drew)); exact Kd.R_mono HO285.out (fun _ hk => ⟨hk.1.1.2, hk.1.2⟩)⟩, ⟨by (with_reducible repeat (first | refine blk_drewN ?_ _ | refine blk_drew ?_ | refine blk_alloc ?_ _)); exact BK271.out⟩, ⟨by (with_reducible repeat (first | refine blk_drewN ?_ _ | refine blk_drew ?_ | refine blk_alloc ?_ _)); exact BK278.out⟩, ⟨by (with_reducible repeat (first | refine blk_drewN ?_ _ | refine blk_drew ?_ | refine blk_alloc ?_ _)); exact BK282.out⟩, ⟨by repeat (first | (with_reducible first | exact HB.out | apply below_alloc | apply pw_below_drewN | apply below_drew1 | refine below_set ?_ GE271.out | refine below_set ?_ GE278.out | refine below_set ?_ GE282.out) | exact HB.out)⟩⟩
              · rw [if_neg c36] at H
                have c36b0 : (t292 == t293) = false := by simpa using c36
                (try (have c36b1 : decide (t292 = t293) = false := by simpa using c36))
                (try (have c36b2 : (t292 == t293) = false := by simpa using c36))
                (try (have c36b3 : ¬ (t292 = t293) := by simpa using c36))
                clear c36
                have H' := Aside0.mk H
                clear H
                have hnb49 := NB278_271.out
                have hnc49 := NB271_278.out
                have hnb50 := NB278_282.out
                have hnc50 := NB282_278.out
                have hcz51_0 : w28.cell? ⟨gb278, 0, none⟩ = some (.int .i64 t275) := (blk_cell BK278.out 0).trans rfl
                have hcz51_1 : w28.cell? ⟨gb278, 1, none⟩ = some (.int .i64 t276) := (blk_cell BK278.out 1).trans rfl
                have hfz51_0 := blk_frozen BK278.out 0
                have hfz51_1 := blk_frozen BK278.out 1
                have hnb52 := NB282_271.out
                have hnc52 := NB271_282.out
                have hcz53_0 : w28.cell? ⟨gb282, 0, none⟩ = some (.int .i64 t279) := (blk_cell BK282.out 0).trans rfl
                have hcz53_1 : w28.cell? ⟨gb282, 1, none⟩ = some (.int .i64 t280) := (blk_cell BK282.out 1).trans rfl
                have hfz53_0 := blk_frozen BK282.out 0
                have hfz53_1 := blk_frozen BK282.out 1
                obtain ⟨Ao54, co54, eo54⟩ := Kd.R_slice HO285.out
                subst eo54
                obtain ⟨Ao55, co55, eo55⟩ := Kd.R_slice HO289.out
                subst eo55
                go_wp2_with (first | (go_at_call 12; (with_reducible refine (sextonref19_Same.calls k _ _ t283 _ _ t287 true _ ?side1 ?side2 ?side3 ?side4 A31.out).mono ?_); (case side1 => repeat (first | exact (Kd.R_reads' HO285.out).2.2 | (with_reducible refine Kd.C_alloc ?_ _) | (with_reducible refine Kd.C_drewN ?_ _) | (with_reducible refine Kd.C_drew ?_))); (case side2 => exact (Kd.R_reads' HO285.out).2.1); (case side3 => repeat (first | exact (Kd.R_reads' HO289.out).2.2 | (with_reducible refine Kd.C_alloc ?_ _) | (with_reducible refine Kd.C_drewN ?_ _) | (with_reducible refine Kd.C_drew ?_))); (case side4 => exact (Kd.R_reads' HO289.out).2.1); rintro e w' ⟨rfl, ⟨nd, rfl⟩⟩) | (go_at_call 13; (with_reducible refine (dedup_Is.calls k _ _ l0 t292 _ ?side1 ?side2 A34.out).mono ?_); (case side1 => repeat (first | exact (Kd.C_below HR0.out (by repeat (first | (with_reducible first | exact HB.out | apply below_alloc | apply pw_below_drewN | apply below_drew1 | refine below_set ?_ GE271.out | refine below_set ?_ GE278.out | refine below_set ?_ GE282.out) | exact HB.out))) | (with_reducible refine Kd.C_alloc ?_ _) | (with_reducible refine Kd.C_drewN ?_ _) | (with_reducible refine Kd.C_drew ?_))); (case side2 => exact HC0.out); rintro e w56 ⟨rfl, hb⟩; have n0_ := Aside0.mk (Kd.R_below (by (with_reducible repeat (first | apply Kd.R_alloc | apply Kd.R_drewN | apply Kd.R_drew)); exact HO274.out) hb); have n1_ := Aside0.mk (Kd.R_below (by (with_reducible repeat (first | apply Kd.R_alloc | apply Kd.R_drewN | apply Kd.R_drew)); exact HO285.out) hb); have n2_ := Aside0.mk (Kd.R_below (by (with_reducible repeat (first | apply Kd.R_alloc | apply Kd.R_drewN | apply Kd.R_drew)); exact HO289.out) hb); have n3_ := Aside0.mk (blk_below (g := gb271) (o := .cells #[.int .i64 a1_0, .int .i64 a1_1, .int .i64 a1_2, .int .i64 a1_3] 27 (0, 0)) (by (with_reducible repeat (first | refine blk_drewN ?_ _ | refine blk_drew ?_ | refine blk_alloc ?_ _)); exact BK271.out) hb); have n4_ := Aside0.mk (blk_below (g := gb278) (o := .cells #[.int .i64 t275, .int .i64 t276] 25 (0, 0)) (by (with_reducible repeat (first | refine blk_drewN ?_ _ | refine blk_drew ?_ | refine blk_alloc ?_ _)); exact BK278.out) hb); have n5_ := Aside0.mk (blk_below (g := gb282) (o := .cells #[.int .i64 t279, .int .i64 t280] 25 (0, 0)) (by (with_reducible repeat (first | refine blk_drewN ?_ _ | refine blk_drew ?_ | refine blk_alloc ?_ _)); exact BK282.out) hb); have n6_ := Aside0.mk (below_step (by repeat (first | (with_reducible first | exact HB.out | apply below_alloc | apply pw_below_drewN | apply below_drew1 | refine below_set ?_ GE271.out | refine below_set ?_ GE278.out | refine below_set ?_ GE282.out) | exact HB.out)) hb); clear HO274; clear HO285; clear HO289; clear BK271; clear BK278; clear BK282; clear HB; have HO274 := n0_; have HO285 := n1_; have HO289 := n2_; have BK271 := n3_; have BK278 := n4_; have BK282 := n5_; have HB := n6_; clear n0_ n1_ n2_ n3_ n4_ n5_ n6_; (try clear hb); (try clear hb2); (try clear hk); (try clear hi)) | (go_at_call 14; (with_reducible refine (sextonref19_Is.calls k _ _ t272 t293 _ ?side1 ?side2 A35.out).mono ?_); (case side1 => repeat (first | exact (Kd.R_reads' HO274.out).2.2 | (with_reducible refine Kd.C_alloc ?_ _) | (with_reducible refine Kd.C_drewN ?_ _) | (with_reducible refine Kd.C_drew ?_))); (case side2 => exact (Kd.R_reads' HO274.out).2.1); rintro e w57 ⟨rfl, hb⟩; have n0_ := Aside0.mk (Kd.R_below (by (with_reducible repeat (first | apply Kd.R_alloc | apply Kd.R_drewN | apply Kd.R_drew)); exact HO274.out) hb); have n1_ := Aside0.mk (Kd.R_below (by (with_reducible repeat (first | apply Kd.R_alloc | apply Kd.R_drewN | apply Kd.R_drew)); exact HO285.out) hb); have n2_ := Aside0.mk (Kd.R_below (by (with_reducible repeat (first | apply Kd.R_alloc | apply Kd.R_drewN | apply Kd.R_drew)); exact HO289.out) hb); have n3_ := Aside0.mk (blk_below (g := gb271) (o := .cells #[.int .i64 a1_0, .int .i64 a1_1, .int .i64 a1_2, .int .i64 a1_3] 27 (0, 0)) (by (with_reducible repeat (first | refine blk_drewN ?_ _ | refine blk_drew ?_ | refine blk_alloc ?_ _)); exact BK271.out) hb); have n4_ := Aside0.mk (blk_below (g := gb278) (o := .cells #[.int .i64 t275, .int .i64 t276] 25 (0, 0)) (by (with_reducible repeat (first | refine blk_drewN ?_ _ | refine blk_drew ?_ | refine blk_alloc ?_ _)); exact BK278.out) hb); have n5_ := Aside0.mk (blk_below (g := gb282) (o := .cells #[.int .i64 t279, .int .i64 t280] 25 (0, 0)) (by (with_reducible repeat (first | refine blk_drewN ?_ _ | refine blk_drew ?_ | refine blk_alloc ?_ _)); exact BK282.out) hb); have n6_ := Aside0.mk (below_step (by repeat (first | (with_reducible first | exact HB.out | apply below_alloc | apply pw_below_drewN | apply below_drew1 | refine below_set ?_ GE271.out | refine below_set ?_ GE278.out | refine below_set ?_ GE282.out) | exact HB.out)) hb); clear HO274; clear HO285; clear HO289; clear BK271; clear BK278; clear BK282; clear HB; have HO274 := n0_; have HO285 := n1_; have HO289 := n2_; have BK271 := n3_; have BK278 := n4_; have BK282 := n5_; have HB := n6_; clear n0_ n1_ n2_ n3_ n4_ n5_ n6_; (try clear hb); (try clear hb2); (try clear hk); (try clear hi)))
                go_meet
                case rel => exact ⟨_, (false), (by first | rfl | (simp; done) | (simp [*]; done)), H', ⟨by first | omega | exact Nat.le_refl _⟩, ⟨by (with_reducible repeat (first | apply Kd.R_alloc | apply Kd.R_drewN | apply Kd.R_drew)); exact Kd.R_mono HO274.out (fun _ hk => ⟨hk.1.2, hk.1.1.2⟩)⟩, ⟨by (with_reducible repeat (first | apply Kd.R_alloc | apply Kd.R_drewN | apply Kd.R_drew)); exact Kd.R_mono HO285.out (fun _ hk => ⟨hk.1.1.2, hk.1.2⟩)⟩, ⟨by (with_reducible repeat (first | refine blk_drewN ?_ _ | refine blk_drew ?_ | refine blk_alloc ?_ _)); exact BK271.out⟩, ⟨by (with_reducible repeat (first | refine blk_drewN ?_ _ | refine blk_drew ?_ | refine blk_alloc ?_ _)); exact BK278.out⟩, ⟨by (with_reducible repeat (first | refine blk_drewN ?_ _ | refine blk_drew ?_ | refine blk_alloc ?_ _)); exact BK282.out⟩, ⟨by repeat (first | (with_reducible first | exact HB.out | apply below_alloc | apply pw_below_drewN | apply below_drew1 | refine below_set ?_ GE271.out | refine below_set ?_ GE278.out | refine below_set ?_ GE282.out) | exact HB.out)⟩⟩
            · rw [if_neg c33] at H
              have c33b0 : (t286 == t290) = false := beq_eq_false_iff_ne.mpr c33
              have c33b1 : (t286 != t290) = true := bne_iff_ne.mpr c33
              have H' := Aside0.mk H
              clear H
              have hnb58 := NB278_271.out
              have hnc58 := NB271_278.out
              have hnb59 := NB278_282.out
              have hnc59 := NB282_278.out
              have hcz60_0 : w28.cell? ⟨gb278, 0, none⟩ = some (.int .i64 t275) := (blk_cell BK278.out 0).trans rfl
              have hcz60_1 : w28.cell? ⟨gb278, 1, none⟩ = some (.int .i64 t276) := (blk_cell BK278.out 1).trans rfl
              have hfz60_0 := blk_frozen BK278.out 0
              have hfz60_1 := blk_frozen BK278.out 1
              have hnb61 := NB282_271.out
              have hnc61 := NB271_282.out
              have hcz62_0 : w28.cell? ⟨gb282, 0, none⟩ = some (.int .i64 t279) := (blk_cell BK282.out 0).trans rfl
              have hcz62_1 : w28.cell? ⟨gb282, 1, none⟩ = some (.int .i64 t280) := (blk_cell BK282.out 1).trans rfl
              have hfz62_0 := blk_frozen BK282.out 0
              have hfz62_1 := blk_frozen BK282.out 1
              obtain ⟨Ao63, co63, eo63⟩ := Kd.R_slice HO285.out
              subst eo63
              obtain ⟨Ao64, co64, eo64⟩ := Kd.R_slice HO289.out
              subst eo64
              go_wp2_with (first | (go_at_call 12; (with_reducible refine (sextonref19_Same.calls k _ _ t283 _ _ t287 true _ ?side1 ?side2 ?side3 ?side4 A31.out).mono ?_); (case side1 => repeat (first | exact (Kd.R_reads' HO285.out).2.2 | (with_reducible refine Kd.C_alloc ?_ _) | (with_reducible refine Kd.C_drewN ?_ _) | (with_reducible refine Kd.C_drew ?_))); (case side2 => exact (Kd.R_reads' HO285.out).2.1); (case side3 => repeat (first | exact (Kd.R_reads' HO289.out).2.2 | (with_reducible refine Kd.C_alloc ?_ _) | (with_reducible refine Kd.C_drewN ?_ _) | (with_reducible refine Kd.C_drew ?_))); (case side4 => exact (Kd.R_reads' HO289.out).2.1); rintro e w' ⟨rfl, ⟨nd, rfl⟩⟩))
              go_meet
              case rel => exact ⟨_, (false), (by first | rfl | (simp; done) | (simp [*]; done)), H', ⟨by first | omega | exact Nat.le_refl _⟩, ⟨by (with_reducible repeat (first | apply Kd.R_alloc | apply Kd.R_drewN | apply Kd.R_drew)); exact Kd.R_mono HO274.out (fun _ hk => ⟨hk.1.2, hk.1.1.2⟩)⟩, ⟨by (with_reducible repeat (first | apply Kd.R_alloc | apply Kd.R_drewN | apply Kd.R_drew)); exact Kd.R_mono HO285.out (fun _ hk => ⟨hk.1.1.2, hk.1.2⟩)⟩, ⟨by (with_reducible repeat (first | refine blk_drewN ?_ _ | refine blk_drew ?_ | refine blk_alloc ?_ _)); exact BK271.out⟩, ⟨by (with_reducible repeat (first | refine blk_drewN ?_ _ | refine blk_drew ?_ | refine blk_alloc ?_ _)); exact BK278.out⟩, ⟨by (with_reducible repeat (first | refine blk_drewN ?_ _ | refine blk_drew ?_ | refine blk_alloc ?_ _)); exact BK282.out⟩, ⟨by repeat (first | (with_reducible first | exact HB.out | apply below_alloc | apply pw_below_drewN | apply below_drew1 | refine below_set ?_ GE271.out | refine below_set ?_ GE278.out | refine below_set ?_ GE282.out) | exact HB.out)⟩⟩
          · replace c32 := Bool.eq_false_iff.mpr c32
            subst c32
            have H1 : (sextonlaw19_DedupDoes.j0 k l0 t272 t283 false) = some r := by rw [if_neg (show ¬ (false = true) by decide)] at H; exact H
            clear H
            have H := H1
            clear H1
            have H' := Aside0.mk H
            clear H
            have hnb65 := NB278_271.out
            have hnc65 := NB271_278.out
            have hnb66 := NB278_282.out
            have hnc66 := NB282_278.out
            have hcz67_0 : w28.cell? ⟨gb278, 0, none⟩ = some (.int .i64 t275) := (blk_cell BK278.out 0).trans rfl
            have hcz67_1 : w28.cell? ⟨gb278, 1, none⟩ = some (.int .i64 t276) := (blk_cell BK278.out 1).trans rfl
            have hfz67_0 := blk_frozen BK278.out 0
            have hfz67_1 := blk_frozen BK278.out 1
            have hnb68 := NB282_271.out
            have hnc68 := NB271_282.out
            have hcz69_0 : w28.cell? ⟨gb282, 0, none⟩ = some (.int .i64 t279) := (blk_cell BK282.out 0).trans rfl
            have hcz69_1 : w28.cell? ⟨gb282, 1, none⟩ = some (.int .i64 t280) := (blk_cell BK282.out 1).trans rfl
            have hfz69_0 := blk_frozen BK282.out 0
            have hfz69_1 := blk_frozen BK282.out 1
            obtain ⟨Ao70, co70, eo70⟩ := Kd.R_slice HO285.out
            subst eo70
            obtain ⟨Ao71, co71, eo71⟩ := Kd.R_slice HO289.out
            subst eo71
            go_wp2_with (first | (go_at_call 12; (with_reducible refine (sextonref19_Same.calls k _ _ t283 _ _ t287 false _ ?side1 ?side2 ?side3 ?side4 A31.out).mono ?_); (case side1 => repeat (first | exact (Kd.R_reads' HO285.out).2.2 | (with_reducible refine Kd.C_alloc ?_ _) | (with_reducible refine Kd.C_drewN ?_ _) | (with_reducible refine Kd.C_drew ?_))); (case side2 => exact (Kd.R_reads' HO285.out).2.1); (case side3 => repeat (first | exact (Kd.R_reads' HO289.out).2.2 | (with_reducible refine Kd.C_alloc ?_ _) | (with_reducible refine Kd.C_drewN ?_ _) | (with_reducible refine Kd.C_drew ?_))); (case side4 => exact (Kd.R_reads' HO289.out).2.1); rintro e w' ⟨rfl, ⟨nd, rfl⟩⟩))
            go_meet
            case rel => exact ⟨_, (false), (by first | rfl | (simp; done) | (simp [*]; done)), H', ⟨by first | omega | exact Nat.le_refl _⟩, ⟨by (with_reducible repeat (first | apply Kd.R_alloc | apply Kd.R_drewN | apply Kd.R_drew)); exact Kd.R_mono HO274.out (fun _ hk => ⟨hk.1.2, hk.1.1.2⟩)⟩, ⟨by (with_reducible repeat (first | apply Kd.R_alloc | apply Kd.R_drewN | apply Kd.R_drew)); exact Kd.R_mono HO285.out (fun _ hk => ⟨hk.1.1.2, hk.1.2⟩)⟩, ⟨by (with_reducible repeat (first | refine blk_drewN ?_ _ | refine blk_drew ?_ | refine blk_alloc ?_ _)); exact BK271.out⟩, ⟨by (with_reducible repeat (first | refine blk_drewN ?_ _ | refine blk_drew ?_ | refine blk_alloc ?_ _)); exact BK278.out⟩, ⟨by (with_reducible repeat (first | refine blk_drewN ?_ _ | refine blk_drew ?_ | refine blk_alloc ?_ _)); exact BK282.out⟩, ⟨by repeat (first | (with_reducible first | exact HB.out | apply below_alloc | apply pw_below_drewN | apply below_drew1 | refine below_set ?_ GE271.out | refine below_set ?_ GE278.out | refine below_set ?_ GE282.out) | exact HB.out)⟩⟩
        · rw [if_neg c30] at H
          have c30b0 : (t277 == t281) = false := beq_eq_false_iff_ne.mpr c30
          have c30b1 : (t277 != t281) = true := bne_iff_ne.mpr c30
          have H' := Aside0.mk H
          clear H
          have hnb72 := NB278_271.out
          have hnc72 := NB271_278.out
          have hnb73 := NB278_282.out
          have hnc73 := NB282_278.out
          have hcz74_0 : w28.cell? ⟨gb278, 0, none⟩ = some (.int .i64 t275) := (blk_cell BK278.out 0).trans rfl
          have hcz74_1 : w28.cell? ⟨gb278, 1, none⟩ = some (.int .i64 t276) := (blk_cell BK278.out 1).trans rfl
          have hfz74_0 := blk_frozen BK278.out 0
          have hfz74_1 := blk_frozen BK278.out 1
          have hnb75 := NB282_271.out
          have hnc75 := NB271_282.out
          have hcz76_0 : w28.cell? ⟨gb282, 0, none⟩ = some (.int .i64 t279) := (blk_cell BK282.out 0).trans rfl
          have hcz76_1 : w28.cell? ⟨gb282, 1, none⟩ = some (.int .i64 t280) := (blk_cell BK282.out 1).trans rfl
          have hfz76_0 := blk_frozen BK282.out 0
          have hfz76_1 := blk_frozen BK282.out 1
          go_wp2
          go_meet
          case rel => exact ⟨_, (false), (by first | rfl | (simp; done) | (simp [*]; done)), H', ⟨by first | omega | exact Nat.le_refl _⟩, ⟨by (with_reducible repeat (first | apply Kd.R_alloc | apply Kd.R_drewN | apply Kd.R_drew)); exact Kd.R_mono HO274.out (fun _ hk => ⟨hk.1.2, hk.1.1.2⟩)⟩, ⟨by (with_reducible repeat (first | apply Kd.R_alloc | apply Kd.R_drewN | apply Kd.R_drew)); exact Kd.R_mono HO285.out (fun _ hk => ⟨hk.1.1.2, hk.1.2⟩)⟩, ⟨by (with_reducible repeat (first | refine blk_drewN ?_ _ | refine blk_drew ?_ | refine blk_alloc ?_ _)); exact BK271.out⟩, ⟨by (with_reducible repeat (first | refine blk_drewN ?_ _ | refine blk_drew ?_ | refine blk_alloc ?_ _)); exact BK278.out⟩, ⟨by (with_reducible repeat (first | refine blk_drewN ?_ _ | refine blk_drew ?_ | refine blk_alloc ?_ _)); exact BK282.out⟩, ⟨by repeat (first | (with_reducible first | exact HB.out | apply below_alloc | apply pw_below_drewN | apply below_drew1 | refine below_set ?_ GE271.out | refine below_set ?_ GE278.out | refine below_set ?_ GE282.out) | exact HB.out)⟩⟩
      · rw [if_neg c29] at H
        have c29b0 : (t275 == t279 && (t276 == t280)) = false := by simpa using c29
        (try (have c29b1 : decide (t275 = t279 && (t276 == t280)) = false := by simpa using c29))
        (try (have c29b2 : (t275 == t279 && (t276 == t280)) = false := by simpa using c29))
        (try (have c29b3 : ¬ (t275 = t279 && (t276 == t280)) := by simpa using c29))
        clear c29
        (first | rw [c29b0] | (simp only [i64_w, i32_w]; rw [c29b0]) | skip)
        have H' := Aside0.mk H
        clear H
        have hnb77 := NB278_271.out
        have hnc77 := NB271_278.out
        have hnb78 := NB278_282.out
        have hnc78 := NB282_278.out
        have hcz79_0 : w28.cell? ⟨gb278, 0, none⟩ = some (.int .i64 t275) := (blk_cell BK278.out 0).trans rfl
        have hcz79_1 : w28.cell? ⟨gb278, 1, none⟩ = some (.int .i64 t276) := (blk_cell BK278.out 1).trans rfl
        have hfz79_0 := blk_frozen BK278.out 0
        have hfz79_1 := blk_frozen BK278.out 1
        have hnb80 := NB282_271.out
        have hnc80 := NB271_282.out
        have hcz81_0 : w28.cell? ⟨gb282, 0, none⟩ = some (.int .i64 t279) := (blk_cell BK282.out 0).trans rfl
        have hcz81_1 : w28.cell? ⟨gb282, 1, none⟩ = some (.int .i64 t280) := (blk_cell BK282.out 1).trans rfl
        have hfz81_0 := blk_frozen BK282.out 0
        have hfz81_1 := blk_frozen BK282.out 1
        go_wp2
        go_meet
        case rel => exact ⟨_, (false), (by first | rfl | (simp; done) | (simp [*]; done)), H', ⟨by first | omega | exact Nat.le_refl _⟩, ⟨by (with_reducible repeat (first | apply Kd.R_alloc | apply Kd.R_drewN | apply Kd.R_drew)); exact Kd.R_mono HO274.out (fun _ hk => ⟨hk.1.2, hk.1.1.2⟩)⟩, ⟨by (with_reducible repeat (first | apply Kd.R_alloc | apply Kd.R_drewN | apply Kd.R_drew)); exact Kd.R_mono HO285.out (fun _ hk => ⟨hk.1.1.2, hk.1.2⟩)⟩, ⟨by (with_reducible repeat (first | refine blk_drewN ?_ _ | refine blk_drew ?_ | refine blk_alloc ?_ _)); exact BK271.out⟩, ⟨by (with_reducible repeat (first | refine blk_drewN ?_ _ | refine blk_drew ?_ | refine blk_alloc ?_ _)); exact BK278.out⟩, ⟨by (with_reducible repeat (first | refine blk_drewN ?_ _ | refine blk_drew ?_ | refine blk_alloc ?_ _)); exact BK282.out⟩, ⟨by repeat (first | (with_reducible first | exact HB.out | apply below_alloc | apply pw_below_drewN | apply below_drew1 | refine below_set ?_ GE271.out | refine below_set ?_ GE278.out | refine below_set ?_ GE282.out) | exact HB.out)⟩⟩
    case rest =>
      clear HC12
      try clear c1
      try clear c2
      try clear p2
      try clear c3
      try clear c4
      try clear c5
      try clear c5b0
      try clear c5b1
      try clear c6
      try clear c7
      try clear c8
      try clear c9
      try clear c10
      try clear c11
      try clear c17
      try clear c22
      try clear c23
      try clear c29
      try clear c29b0
      try clear c29b1
      try clear c29b2
      try clear c30
      try clear c30b0
      try clear c30b1
      try clear c32
      try clear c33
      try clear c33b0
      try clear c33b1
      try clear c36
      try clear c36b0
      try clear c36b1
      try clear c36b2
      try clear c39
      try clear c40
      try clear c42
      try clear c49
      try clear c50
      try clear c52
      try clear c58
      try clear c59
      try clear c61
      try clear c65
      try clear c66
      try clear c68
      try clear c72
      try clear c73
      try clear c75
      try clear c77
      try clear c78
      try clear c80
      try clear hcz18_0
      try clear hcz18_1
      try clear hcz24_0
      try clear hcz24_1
      try clear hcz25_0
      try clear hcz25_1
      try clear hcz25_2
      try clear hcz25_3
      try clear hcz27_0
      try clear hcz27_1
      try clear hcz27_2
      try clear hcz27_3
      try clear hcz41_0
      try clear hcz41_1
      try clear hcz43_0
      try clear hcz43_1
      try clear hcz51_0
      try clear hcz51_1
      try clear hcz53_0
      try clear hcz53_1
      try clear hcz60_0
      try clear hcz60_1
      try clear hcz62_0
      try clear hcz62_1
      try clear hcz67_0
      try clear hcz67_1
      try clear hcz69_0
      try clear hcz69_1
      try clear hcz74_0
      try clear hcz74_1
      try clear hcz76_0
      try clear hcz76_1
      try clear hcz79_0
      try clear hcz79_1
      try clear hcz81_0
      try clear hcz81_1
      try clear hfz18_0
      try clear hfz18_1
      try clear hfz24_0
      try clear hfz24_1
      try clear hfz25_0
      try clear hfz25_1
      try clear hfz25_2
      try clear hfz25_3
      try clear hfz27_0
      try clear hfz27_1
      try clear hfz27_2
      try clear hfz27_3
      try clear hfz41_0
      try clear hfz41_1
      try clear hfz43_0
      try clear hfz43_1
      try clear hfz51_0
      try clear hfz51_1
      try clear hfz53_0
      try clear hfz53_1
      try clear hfz60_0
      try clear hfz60_1
      try clear hfz62_0
      try clear hfz62_1
      try clear hfz67_0
      try clear hfz67_1
      try clear hfz69_0
      try clear hfz69_1
      try clear hfz74_0
      try clear hfz74_1
      try clear hfz76_0
      try clear hfz76_1
      try clear hfz79_0
      try clear hfz79_1
      try clear hfz81_0
      try clear hfz81_1
      obtain ⟨kq, x18_11, rfl, HA, HJ11, HO_9, HO_14, BK271, BK278, BK282, HB⟩ := hcut
      cases kq with
      | zero => exact absurd HA.out (by simp [sextonlaw19_DedupDoes.j0])
      | succ kj11 =>
        have H := HA.out
        clear HA
        simp only [sextonlaw19_DedupDoes.j0] at H
        have H' := Aside0.mk H
        clear H
        go_wp2
        go_loopg [19] kj11 (fun kq v19 w' => ∃ (x14_2 : List (S27)) (x19_2 : Int) (x272001_2 : Int), v19 = .int .i64 x19_2 ∧ Aside0 (sextonlaw19_DedupDoes.l0 kq l0 t272 x14_2 x18_11 x19_2 = some r) ∧ Aside0 (kq ≤ kj11) ∧ Aside0 (Kd.R k27 27 w' w.heap.size (fun k_ => some k_ ≠ (v284 : Value).ownBlock ∧ k_ ≠ gb271) (.slice Ao19 t272.length co19) t272) ∧ Aside0 (Kd.R k27 27 w' w.heap.size (fun k_ => some k_ ≠ ((.slice Ao19 t272.length co19) : Value).ownBlock ∧ k_ ≠ gb271) v284 x14_2) ∧ Aside0 (w'.heap[gb271]? = some (.cells #[.int .i64 a1_0, .int .i64 x272001_2, .int .i64 a1_2, .int .i64 a1_3] 27 (0, 0))) ∧ Aside0 (w'.heap[gb278]? = some (.cells #[.int .i64 t275, .int .i64 t276] 25 (0, 0))) ∧ Aside0 (w'.heap[gb282]? = some (.cells #[.int .i64 t279, .int .i64 t280] 25 (0, 0))) ∧ Aside0 (Below w.heap.size w w'))
        case atStart => exact ⟨(t283), (0), (a1_1), (by first | rfl | (simp; done) | (simp [*]; done)), H', ⟨Nat.le_refl _⟩, ⟨by (with_reducible repeat (first | apply Kd.R_alloc | apply Kd.R_drewN | apply Kd.R_drew)); exact HO_9.out⟩, ⟨by (with_reducible repeat (first | apply Kd.R_alloc | apply Kd.R_drewN | apply Kd.R_drew)); exact HO_14.out⟩, ⟨by (with_reducible repeat (first | refine blk_drewN ?_ _ | refine blk_drew ?_ | refine blk_alloc ?_ _)); exact BK271.out⟩, ⟨by (with_reducible repeat (first | refine blk_drewN ?_ _ | refine blk_drew ?_ | refine blk_alloc ?_ _)); exact BK278.out⟩, ⟨by (with_reducible repeat (first | refine blk_drewN ?_ _ | refine blk_drew ?_ | refine blk_alloc ?_ _)); exact BK282.out⟩, ⟨by repeat (first | (with_reducible first | exact HB.out | apply below_alloc | apply pw_below_drewN | apply below_drew1 | refine below_set ?_ GE271.out | refine below_set ?_ GE278.out | refine below_set ?_ GE282.out) | exact HB.out)⟩⟩
        case round =>
          clear H'
          try clear c1
          try clear c2
          try clear p2
          try clear c3
          try clear c4
          try clear c5
          try clear c5b0
          try clear c5b1
          try clear c6
          try clear c7
          try clear c8
          try clear c9
          try clear c10
          try clear c11
          try clear c17
          try clear c22
          try clear c23
          try clear c29
          try clear c29b0
          try clear c29b1
          try clear c29b2
          try clear c30
          try clear c30b0
          try clear c30b1
          try clear c32
          try clear c33
          try clear c33b0
          try clear c33b1
          try clear c36
          try clear c36b0
          try clear c36b1
          try clear c36b2
          try clear c39
          try clear c40
          try clear c42
          try clear c49
          try clear c50
          try clear c52
          try clear c58
          try clear c59
          try clear c61
          try clear c65
          try clear c66
          try clear c68
          try clear c72
          try clear c73
          try clear c75
          try clear c77
          try clear c78
          try clear c80
          try clear hcz18_0
          try clear hcz18_1
          try clear hcz24_0
          try clear hcz24_1
          try clear hcz25_0
          try clear hcz25_1
          try clear hcz25_2
          try clear hcz25_3
          try clear hcz27_0
          try clear hcz27_1
          try clear hcz27_2
          try clear hcz27_3
          try clear hcz41_0
          try clear hcz41_1
          try clear hcz43_0
          try clear hcz43_1
          try clear hcz51_0
          try clear hcz51_1
          try clear hcz53_0
          try clear hcz53_1
          try clear hcz60_0
          try clear hcz60_1
          try clear hcz62_0
          try clear hcz62_1
          try clear hcz67_0
          try clear hcz67_1
          try clear hcz69_0
          try clear hcz69_1
          try clear hcz74_0
          try clear hcz74_1
          try clear hcz76_0
          try clear hcz76_1
          try clear hcz79_0
          try clear hcz79_1
          try clear hcz81_0
          try clear hcz81_1
          try clear hfz18_0
          try clear hfz18_1
          try clear hfz24_0
          try clear hfz24_1
          try clear hfz25_0
          try clear hfz25_1
          try clear hfz25_2
          try clear hfz25_3
          try clear hfz27_0
          try clear hfz27_1
          try clear hfz27_2
          try clear hfz27_3
          try clear hfz41_0
          try clear hfz41_1
          try clear hfz43_0
          try clear hfz43_1
          try clear hfz51_0
          try clear hfz51_1
          try clear hfz53_0
          try clear hfz53_1
          try clear hfz60_0
          try clear hfz60_1
          try clear hfz62_0
          try clear hfz62_1
          try clear hfz67_0
          try clear hfz67_1
          try clear hfz69_0
          try clear hfz69_1
          try clear hfz74_0
          try clear hfz74_1
          try clear hfz76_0
          try clear hfz76_1
          try clear hfz79_0
          try clear hfz79_1
          try clear hfz81_0
          try clear hfz81_1
          try clear p2
          obtain ⟨x14_2, x19_2, x272001_2, rfl, HA, HK2, HO_9, HO_14, BK271, BK278, BK282, HB⟩ := hrel
          cases gk with
          | zero => exact absurd HA.out (by simp [sextonlaw19_DedupDoes.l0])
          | succ k2 =>
            have H := HA.out
            clear HA
            simp only [sextonlaw19_DedupDoes.l0] at H
            by_cases c82 : x19_2 < (x14_2.length : Int)
            · rw [if_pos c82] at H
              have c82b0 : decide (x19_2 < (x14_2.length : Int)) = true := decide_eq_true c82
              clear c82
              by_cases c83 : 0 ≤ x19_2
              · rw [if_pos c83] at H
                have c83b0 : decide (0 ≤ x19_2) = true := decide_eq_true c83
                clear c83
                obtain ⟨y296, hy296⟩ : ∃ y_ : List (S27), y_ = (x14_2.set (x19_2 : Int).toNat (⟨(rd_T27 x14_2 x19_2).f0, (-7), (⟨(rd_T27 x14_2 x19_2).f2.f0, (rd_T27 x14_2 x19_2).f2.f1⟩ : S25)⟩ : S27)) := ⟨_, rfl⟩
                replace H : (sextonlaw19_DedupDoes.l0 k2 l0 t272 y296 x18_11 (wrap64 (x19_2 + 1))) = some r := by first | (rw [hy296]; with_reducible exact H) | (have H2_ := (Option.bind_some _ _).symm.trans H; rw [hy296]; with_reducible exact H2_) | (have H2_ := (Option.bind_some _ _).symm.trans H; with_reducible exact H2_) | with_reducible exact H | (rw [hy296]; exact H) | exact H
                have Ny296 := Aside0.mk hy296
                clear hy296
                have H' := Aside0.mk H
                clear H
                obtain ⟨Ao85, co85, eo85⟩ := Kd.R_slice HO_14.out
                subst eo85
                have p84 : 0 ≤ (x19_2 : Int) := of_decide_eq_true (by first | (with_reducible assumption) | assumption)
                have q84 : (x19_2 : Int) < ((x14_2.length : Int) : Int) := of_decide_eq_true (by first | (with_reducible assumption) | assumption)
                obtain ⟨go84, co84, eo84, gb84, gl84, cl84, HG84⟩ := Kd.R_form HO_14.out (by omega)
                (first | cases eo84 | (injection eo84 with ea_ en_ ec_; (first | subst ea_ | (injection ea_ with ea_; subst ea_)); subst ec_; clear en_))
                have GB84 := Aside0.mk gb84
                have GG84 := Aside0.mk HG84
                clear gb84 gl84 HG84
                obtain ⟨ce84, hcl84, hM84, hcc84, hfr84⟩ := Kd.R_elem HO_14.out z27 (x19_2 : Int) p84 q84
                obtain rfl := k27_openM hM84
                have hx84_0 : wr.cell? ⟨go84, (x19_2 : Int).toNat * 4, none⟩ = some (.int .i64 ((rd_T27 x14_2 x19_2).f0)) := hcc84 0 _ rfl
                have hx84_1 : wr.cell? ⟨go84, (x19_2 : Int).toNat * 4 + 1, none⟩ = some (.int .i64 ((rd_T27 x14_2 x19_2).f1)) := hcc84 1 _ rfl
                have hx84_2 : wr.cell? ⟨go84, (x19_2 : Int).toNat * 4 + 2, none⟩ = some (.int .i64 ((rd_T27 x14_2 x19_2).f2.f0)) := hcc84 2 _ rfl
                have hx84_3 : wr.cell? ⟨go84, (x19_2 : Int).toNat * 4 + 3, none⟩ = some (.int .i64 ((rd_T27 x14_2 x19_2).f2.f1)) := hcc84 3 _ rfl
                have hf84_0 : wr.frozen? ⟨go84, (x19_2 : Int).toNat * 4, none⟩ = false := hfr84 0
                have hf84_1 : wr.frozen? ⟨go84, (x19_2 : Int).toNat * 4 + 1, none⟩ = false := hfr84 1
                have hf84_2 : wr.frozen? ⟨go84, (x19_2 : Int).toNat * 4 + 2, none⟩ = false := hfr84 2
                have hf84_3 : wr.frozen? ⟨go84, (x19_2 : Int).toNat * 4 + 3, none⟩ = false := hfr84 3
                clear hcl84 hcc84 hfr84 hM84
                replace p84 := eq_true p84
                replace q84 := eq_true q84
                have HX86 := Aside0.mk (show Kd.R k27 27 wr w.heap.size (fun k_ => some k_ ≠ (.slice Ao19 t272.length co19 : Value).ownBlock ∧ k_ ≠ gb271) (.slice (some ⟨go84, 0, none⟩) x14_2.length co85) x14_2 from (by (with_reducible repeat (first | apply Kd.R_alloc | apply Kd.R_drewN | apply Kd.R_drew)); exact HO_14.out))
                obtain ⟨ce86, hcl86, hM86, hcc86, hfr86⟩ := Kd.R_elem HX86.out z27 (x19_2 : Int) (of_decide_eq_true (by first | (with_reducible assumption) | assumption)) (by have h_ : (x19_2 : Int) < ((x14_2.length : Int) : Int) := of_decide_eq_true (by first | (with_reducible assumption) | assumption); first | exact h_ | (have e_ := (Kd.R_reads' HO_14.out).1; omega) | simpa using h_)
                obtain rfl := k27_openM hM86
                have HP86 := Kd.R_seg HX86.out (x19_2 : Int) (of_decide_eq_true (by first | (with_reducible assumption) | assumption)) (by have h_ : (x19_2 : Int) < ((x14_2.length : Int) : Int) := of_decide_eq_true (by first | (with_reducible assumption) | assumption); first | exact h_ | (have e_ := (Kd.R_reads' HO_14.out).1; omega) | simpa using h_) (seg := [.int .i64 (-7)]) (j := 1) hcl86 hcc86 (show 2 ≤ 4 from by decide) (x' := (⟨(rd_T27 x14_2 x19_2).f0, (-7), (⟨(rd_T27 x14_2 x19_2).f2.f0, (rd_T27 x14_2 x19_2).f2.f1⟩ : S25)⟩ : S27)) (k27_mkM _ _ _ (⟨(rd_T27 x14_2 x19_2).f0, (-7), (⟨(rd_T27 x14_2 x19_2).f2.f0, (rd_T27 x14_2 x19_2).f2.f1⟩ : S25)⟩ : S27) ) (fun _ hk => hk)
                have hx86_1 := hcc86 1 _ rfl
                (try simp only [show (k27).sz = 4 from rfl, Nat.mul_one, Nat.add_zero] at hx86_1)
                have hf86_1 := hfr86 1
                (try simp only [show (k27).sz = 4 from rfl, Nat.mul_one, Nat.add_zero] at hf86_1)
                clear hcl86 hcc86 hfr86 hM86
                go_wp2_with (first | ((with_reducible refine gate_store (t := 3) (p := 94) rfl ?_); refine store_event (t := 3) (p := 94) (v := ?vo_w87) (w1 := (wr.setCell ⟨go84, (x19_2 : Int).toNat * 4 + 1, none⟩ (.int .i64 (-7)))) ?hg ?ho ?hn ?hr ?_; (case ho => rfl); (case hg => rfl); (case hn => rfl); (case hr => first | (go_simp; done) | (go_simp; rfl)); intro w87 hw; have hg : wr.grownBy w87 (some go84) := (by rw [hw]; exact HP86.2); have hp_ : Kd.R k27 27 w87 w.heap.size (fun k_ => some k_ ≠ (.slice Ao19 t272.length co19 : Value).ownBlock ∧ k_ ≠ gb271) (.slice (some ⟨go84, 0, none⟩) x14_2.length co85) y296 := (by rw [hw, Ny296.out]; exact HP86.1); clear HP86; have n0_ := Aside0.mk (Kd.R_after (v := (.slice (some ⟨go84, 0, none⟩) x14_2.length co85)) (v1 := (.slice (some ⟨go84, 0, none⟩) x14_2.length co85)) (ok := (fun k_ => k_ ≠ gb271)) (by (with_reducible repeat (first | apply Kd.R_alloc | apply Kd.R_drewN | apply Kd.R_drew)); exact Kd.R_mono HO_9.out (fun _ hk => ⟨hk.2, hk.1⟩)) hg (.inl rfl)); have n1_ := Aside0.mk (hp_); have n2_ := Aside0.mk (blk_grown (g := gb271) (o := .cells #[.int .i64 a1_0, .int .i64 x272001_2, .int .i64 a1_2, .int .i64 a1_3] 27 (0, 0)) (by (with_reducible repeat (first | refine blk_drewN ?_ _ | refine blk_drew ?_ | refine blk_alloc ?_ _)); exact BK271.out) hg (Kd.R_away HO_14.out (fun _ hk => hk.2))); have n3_ := Aside0.mk (blk_grown (g := gb278) (o := .cells #[.int .i64 t275, .int .i64 t276] 25 (0, 0)) (by (with_reducible repeat (first | refine blk_drewN ?_ _ | refine blk_drew ?_ | refine blk_alloc ?_ _)); exact BK278.out) hg (Kd.R_ne HO_14.out BK278.out (by decide))); have n4_ := Aside0.mk (blk_grown (g := gb282) (o := .cells #[.int .i64 t279, .int .i64 t280] 25 (0, 0)) (by (with_reducible repeat (first | refine blk_drewN ?_ _ | refine blk_drew ?_ | refine blk_alloc ?_ _)); exact BK282.out) hg (Kd.R_ne HO_14.out BK282.out (by decide))); have n5_ := Aside0.mk ((by rw [hw]; exact below_set (HB.out) GB84.out : Below w.heap.size w w87)); clear HO_9; clear HO_14; clear BK271; clear BK278; clear BK282; clear HB; have HO_9 := n0_; have HO_14 := n1_; have BK271 := n2_; have BK278 := n3_; have BK282 := n4_; have HB := n5_; clear n0_ n1_ n2_ n3_ n4_ n5_; clear hg hw hp_))
                go_roundg k2
                case measure => have := HJ11.out; have := HK2.out; omega
                case rel => exact ⟨(y296), (wrap64 (x19_2 + 1)), (x272001_2), (by first | rfl | (simp; done) | (simp [*]; done)), H', ⟨by have := HJ11.out; have := HK2.out; omega⟩, ⟨by (with_reducible repeat (first | apply Kd.R_alloc | apply Kd.R_drewN | apply Kd.R_drew)); exact Kd.R_mono HO_9.out (fun _ hk => ⟨hk.2, hk.1⟩)⟩, ⟨by (with_reducible repeat (first | apply Kd.R_alloc | apply Kd.R_drewN | apply Kd.R_drew)); exact HO_14.out⟩, ⟨by (with_reducible repeat (first | refine blk_drewN ?_ _ | refine blk_drew ?_ | refine blk_alloc ?_ _)); exact BK271.out⟩, ⟨by (with_reducible repeat (first | refine blk_drewN ?_ _ | refine blk_drew ?_ | refine blk_alloc ?_ _)); exact BK278.out⟩, ⟨by (with_reducible repeat (first | refine blk_drewN ?_ _ | refine blk_drew ?_ | refine blk_alloc ?_ _)); exact BK282.out⟩, ⟨by repeat (first | (with_reducible first | exact HB.out | apply below_alloc | apply pw_below_drewN | apply below_drew1 | refine below_set ?_ GE271.out | refine below_set ?_ GE278.out | refine below_set ?_ GE282.out) | exact HB.out)⟩⟩
              · rw [if_neg c83] at H
                exact absurd H (by simp)
            · rw [if_neg c82] at H
              have c82b0 : decide (x19_2 < (x14_2.length : Int)) = false := decide_eq_false c82
              clear c82
              replace H := Option.bind_eq_some_iff.mp H
              obtain ⟨t297, A880, H⟩ := H
              replace H : (if t297 = true then (if x18_11 = true then ((sextonref19_Same.f k2 l0 t272).bind fun t298 => (some t298)) else (some false)) else (some false)) = some r := H
              have A88 := Aside0.mk A880
              clear A880
              by_cases c89 : t297 = true
              · subst c89
                have H1 : (if x18_11 = true then ((sextonref19_Same.f k2 l0 t272).bind fun t298 => (some t298)) else (some false)) = some r := by rw [if_pos rfl] at H; exact H
                clear H
                have H := H1
                clear H1
                by_cases c90 : x18_11 = true
                · subst c90
                  have H1 : ((sextonref19_Same.f k2 l0 t272).bind fun t298 => (some t298)) = some r := by rw [if_pos rfl] at H; exact H
                  clear H
                  have H := H1
                  clear H1
                  replace H := Option.bind_eq_some_iff.mp H
                  obtain ⟨t298, A910, H⟩ := H
                  replace H : (some t298) = some r := H
                  have A91 := Aside0.mk A910
                  clear A910
                  obtain rfl := Option.some.inj H
                  obtain ⟨Ao92, co92, eo92⟩ := Kd.R_slice HO_14.out
                  subst eo92
                  go_wp2_with (first | ((with_reducible refine gate_callee (f := 17) rfl ?_); refine goesL_ (some 95) rfl rfl Try.func17 (by kernel_rfl) rfl #[] rfl (by (try simp only [List.map_toArray, List.map_cons, List.map_nil]); first | done | rfl | (simp only [List.length_drop, List.length_take]; rfl)) ?_; (with_reducible refine (sextonlaw19_seen.calls k2  true _ A88.out (sextonlaw19_seen.istrue A88.out)).mono ?_); rintro e w93 ⟨rfl, hb⟩; refine ⟨_, rfl, ?_⟩; have n0_ := Aside0.mk (Kd.R_below (by (with_reducible repeat (first | apply Kd.R_alloc | apply Kd.R_drewN | apply Kd.R_drew)); exact HO_9.out) hb); have n1_ := Aside0.mk (Kd.R_below (by (with_reducible repeat (first | apply Kd.R_alloc | apply Kd.R_drewN | apply Kd.R_drew)); exact HO_14.out) hb); have n2_ := Aside0.mk (blk_below (g := gb271) (o := .cells #[.int .i64 a1_0, .int .i64 x272001_2, .int .i64 a1_2, .int .i64 a1_3] 27 (0, 0)) (by (with_reducible repeat (first | refine blk_drewN ?_ _ | refine blk_drew ?_ | refine blk_alloc ?_ _)); exact BK271.out) hb); have n3_ := Aside0.mk (blk_below (g := gb278) (o := .cells #[.int .i64 t275, .int .i64 t276] 25 (0, 0)) (by (with_reducible repeat (first | refine blk_drewN ?_ _ | refine blk_drew ?_ | refine blk_alloc ?_ _)); exact BK278.out) hb); have n4_ := Aside0.mk (blk_below (g := gb282) (o := .cells #[.int .i64 t279, .int .i64 t280] 25 (0, 0)) (by (with_reducible repeat (first | refine blk_drewN ?_ _ | refine blk_drew ?_ | refine blk_alloc ?_ _)); exact BK282.out) hb); have n5_ := Aside0.mk (below_step (by repeat (first | (with_reducible first | exact HB.out | apply below_alloc | apply pw_below_drewN | apply below_drew1 | refine below_set ?_ GE271.out | refine below_set ?_ GE278.out | refine below_set ?_ GE282.out) | exact HB.out)) hb); clear HO_9; clear HO_14; clear BK271; clear BK278; clear BK282; clear HB; have HO_9 := n0_; have HO_14 := n1_; have BK271 := n2_; have BK278 := n3_; have BK282 := n4_; have HB := n5_; clear n0_ n1_ n2_ n3_ n4_ n5_; (try clear hb); (try clear hb2); (try clear hk); (try clear hi)) | (go_at_call 12; (with_reducible refine (sextonref19_Same.calls k2 _ _ l0 _ _ t272 t298 _ ?side1 ?side2 ?side3 ?side4 A91.out).mono ?_); (case side1 => repeat (first | exact (Kd.C_below HR0.out HB.out) | (with_reducible refine Kd.C_alloc ?_ _) | (with_reducible refine Kd.C_drewN ?_ _) | (with_reducible refine Kd.C_drew ?_))); (case side2 => exact HC0.out); (case side3 => repeat (first | exact (Kd.R_reads' HO_9.out).2.2 | (with_reducible refine Kd.C_alloc ?_ _) | (with_reducible refine Kd.C_drewN ?_ _) | (with_reducible refine Kd.C_drew ?_))); (case side4 => exact (Kd.R_reads' HO_9.out).2.1); rintro e w' ⟨rfl, ⟨nd, rfl⟩⟩))
                  go_ret
                  exact ⟨by first | rfl | (simp [errW_none, errW_some] <;> rfl) | (simp [*, errW_none, errW_some] <;> rfl), by repeat (first | (with_reducible first | exact HB.out | apply below_alloc | apply pw_below_drewN | apply below_drew1 | refine below_set ?_ GE271.out | refine below_set ?_ GE278.out | refine below_set ?_ GE282.out) | exact HB.out)⟩
                · replace c90 := Bool.eq_false_iff.mpr c90
                  subst c90
                  have H1 : (some false) = some r := by rw [if_neg (show ¬ (false = true) by decide)] at H; exact H
                  clear H
                  have H := H1
                  clear H1
                  exact absurd (H.trans (congrArg some HT.out)) (by simp)
              · replace c89 := Bool.eq_false_iff.mpr c89
                subst c89
                have H1 : (some false) = some r := by rw [if_neg (show ¬ (false = true) by decide)] at H; exact H
                clear H
                have H := H1
                clear H1
                exact absurd (H.trans (congrArg some HT.out)) (by simp)

end Go.Proofs.Ytbohgnecphhdmaa.P
