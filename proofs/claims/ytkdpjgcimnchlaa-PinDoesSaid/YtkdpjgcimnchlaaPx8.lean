-- printed by a program of this session (wip/tools/xprint.py) over the translation; not trusted: Lean checks it
import Derived.Test.YtkdpjgcimnchlaaPx0
import Derived.Test.YtkdpjgcimnchlaaPx2
import Derived.Test.YtkdpjgcimnchlaaPx3
import Derived.Test.YtkdpjgcimnchlaaPx4
import Derived.Test.YtkdpjgcimnchlaaPx5
import Derived.Test.YtkdpjgcimnchlaaPx6
import Derived.Test.YtkdpjgcimnchlaaPx7
namespace Go.Proofs.Ytkdpjgcimnchlaa.P
open Go.RowKit Go.Proofs.YtkdpjgcimnchlaaW.PrintWords Go.Proofs.YtkdpjgcimnchlaaW.PrintLast Go.Proofs.YtkdpjgcimnchlaaW.PrintMore
attribute [local go_sem] max2_int min2_int max_two min_two max_three min_three max_four min_four   -- for this text's walks alone
set_option linter.unusedVariables false
set_option linter.unusedSimpArgs false

/-! ### sextonlaw17_PinDoes: function 3 -/
mutual
def sextonlaw17_PinDoes.j0 : Nat → List (S24) → List (S24) → List (S24) → List (S24) → Bool → Option (Bool)
  | 0, _, _, _, _, _ => none
  | k + 1, x0, x13, x14, x18, x30 => sextonlaw17_PinDoes.l0 k x0 x13 x14 x18 x30 0
def sextonlaw17_PinDoes.l0 : Nat → List (S24) → List (S24) → List (S24) → List (S24) → Bool → Int → Option (Bool)
  | 0, _, _, _, _, _, _ => none
  | k + 1, x0, x13, x14, x18, x30, x31 => if x31 < (x14.length : Int) then (if 0 ≤ x31 then (sextonlaw17_PinDoes.l0 k x0 x13 (x14.set (x31 : Int).toNat (⟨(rd_T24 x14 x31).f0, (-7)⟩ : S24)) x18 x30 (wrap64 (x31 + 1))) else (none)) else (sextonlaw17_PinDoes.l1 k x0 x13 x18 x30 0)
def sextonlaw17_PinDoes.l1 : Nat → List (S24) → List (S24) → List (S24) → Bool → Int → Option (Bool)
  | 0, _, _, _, _, _ => none
  | k + 1, x0, x13, x18, x30, x32 => if x32 < (x18.length : Int) then (if 0 ≤ x32 then (sextonlaw17_PinDoes.l1 k x0 x13 (x18.set (x32 : Int).toNat (⟨(rd_T24 x18 x32).f0, (-7)⟩ : S24)) x30 (wrap64 (x32 + 1))) else (none)) else ((sextonlaw17_pinned.f k).bind fun t279 => (if t279 = true then (if x30 = true then ((pin_Is.f k x0).bind fun t280 => ((sextonref17_Is.f k x13).bind fun t281 => (if (t280 == t281) = true then ((sextonref17_Same.f k x0 x13).bind fun t282 => (some t282)) else (some false)))) else (some false)) else (some false)))
end
def sextonlaw17_PinDoes.f (k : Nat) (l0 : List (S24)) (a1_0 : Int) (a1_1 : Int) (a2 : Int) (a3 : Int) (a4 : Int) (a5 : Int) : Option (Bool) := if (l0.length : Int) > 100 then (some true) else ((sextonref17_Own.f l0).bind fun t246 => ((pin_Add.f k l0 a1_0 a1_1).bind fun bt249 => ((sextonref17_Add.f k t246 a1_0 a1_1).bind fun bt253 => ((pin_Drop.f k l0 a2).bind fun bt257 => ((sextonref17_Drop.f k t246 a2).bind fun bt261 => ((pin_Of.f l0 a2).bind fun bt265 => ((sextonref17_Of.f k t246 a2).bind fun bt267 => ((pin_Least.f k l0).bind fun bt269 => ((sextonref17_Least.f k t246).bind fun bt271 => ((sextonref17_Same.f k bt249.1 bt253.1).bind fun t273 => (if t273 = true then (if bt249.2 = bt253.2 then ((sextonref17_Same.f k bt257.1 bt261.1).bind fun t274 => (if t274 = true then (if bt257.2 = bt261.2 then (if bt265.1 = bt267.1 then (if (bt265.2 == bt267.2) = true then (if bt269.1 = bt271.1 then (if (bt269.2 == bt271.2) = true then ((pin_Raise.f k a3 a4 a5 l0).bind fun t275 => ((sextonref17_Raise.f k a3 a4 a5 t246).bind fun t276 => (sextonlaw17_PinDoes.j0 k l0 t246 bt249.1 bt257.1 (t275 == t276)))) else (sextonlaw17_PinDoes.j0 k l0 t246 bt249.1 bt257.1 false)) else (sextonlaw17_PinDoes.j0 k l0 t246 bt249.1 bt257.1 false)) else (sextonlaw17_PinDoes.j0 k l0 t246 bt249.1 bt257.1 false)) else (sextonlaw17_PinDoes.j0 k l0 t246 bt249.1 bt257.1 false)) else (sextonlaw17_PinDoes.j0 k l0 t246 bt249.1 bt257.1 false)) else (sextonlaw17_PinDoes.j0 k l0 t246 bt249.1 bt257.1 false))) else (sextonlaw17_PinDoes.j0 k l0 t246 bt249.1 bt257.1 false)) else (sextonlaw17_PinDoes.j0 k l0 t246 bt249.1 bt257.1 false))))))))))))
theorem sextonlaw17_PinDoes.mono_l : ∀ k, (∀ y0 y1 y2 y3 y4, LeO (sextonlaw17_PinDoes.j0 k y0 y1 y2 y3 y4) (sextonlaw17_PinDoes.j0 (k + 1) y0 y1 y2 y3 y4)) ∧ (∀ y0 y1 y2 y3 y4 y5, LeO (sextonlaw17_PinDoes.l0 k y0 y1 y2 y3 y4 y5) (sextonlaw17_PinDoes.l0 (k + 1) y0 y1 y2 y3 y4 y5)) ∧ (∀ y0 y1 y2 y3 y4, LeO (sextonlaw17_PinDoes.l1 k y0 y1 y2 y3 y4) (sextonlaw17_PinDoes.l1 (k + 1) y0 y1 y2 y3 y4))
  | 0 => ⟨fun _ _ _ _ _ r h => by simp [sextonlaw17_PinDoes.j0] at h, fun _ _ _ _ _ _ r h => by simp [sextonlaw17_PinDoes.l0] at h, fun _ _ _ _ _ r h => by simp [sextonlaw17_PinDoes.l1] at h⟩
  | k + 1 => by
    obtain ⟨ih0, ih1, ih2⟩ := sextonlaw17_PinDoes.mono_l k
    refine ⟨?_, ?_, ?_⟩
    · intro y0 y1 y2 y3 y4
      unfold sextonlaw17_PinDoes.j0
      repeat' first
      | (with_reducible exact ih0 _ _ _ _ _)
      | (with_reducible exact ih1 _ _ _ _ _ _)
      | (with_reducible exact ih2 _ _ _ _ _)
      | (with_reducible exact pin_Add.mono _ _ _ _)
      | (with_reducible exact pin_Drop.mono _ _ _)
      | (with_reducible exact pin_Is.mono _ _)
      | (with_reducible exact pin_Least.mono _ _)
      | (with_reducible exact pin_Raise.mono _ _ _ _ _)
      | (with_reducible exact sextonlaw17_pinned.mono _)
      | (with_reducible exact sextonref17_Add.mono _ _ _ _)
      | (with_reducible exact sextonref17_Drop.mono _ _ _)
      | (with_reducible exact sextonref17_Is.mono _ _)
      | (with_reducible exact sextonref17_Least.mono _ _)
      | (with_reducible exact sextonref17_Of.mono _ _ _)
      | (with_reducible exact sextonref17_Raise.mono _ _ _ _ _)
      | (with_reducible exact sextonref17_Same.mono _ _ _)
      | (with_reducible exact LeO.refl _)
      | (with_reducible exact LeO.none _)
      | (with_reducible refine LeO.ite ?_ ?_)
      | (with_reducible refine LeO.bind ?_ (fun _ => ?_))
      | exact ih0 _ _ _ _ _
      | exact ih1 _ _ _ _ _ _
      | exact ih2 _ _ _ _ _
      | exact pin_Add.mono _ _ _ _
      | exact pin_Drop.mono _ _ _
      | exact pin_Is.mono _ _
      | exact pin_Least.mono _ _
      | exact pin_Raise.mono _ _ _ _ _
      | exact sextonlaw17_pinned.mono _
      | exact sextonref17_Add.mono _ _ _ _
      | exact sextonref17_Drop.mono _ _ _
      | exact sextonref17_Is.mono _ _
      | exact sextonref17_Least.mono _ _
      | exact sextonref17_Of.mono _ _ _
      | exact sextonref17_Raise.mono _ _ _ _ _
      | exact sextonref17_Same.mono _ _ _
      | exact LeO.none _
      | refine LeO.ite ?_ ?_
      | refine LeO.bind ?_ (fun _ => ?_)
    · intro y0 y1 y2 y3 y4 y5
      unfold sextonlaw17_PinDoes.l0
      repeat' first
      | (with_reducible exact ih0 _ _ _ _ _)
      | (with_reducible exact ih1 _ _ _ _ _ _)
      | (with_reducible exact ih2 _ _ _ _ _)
      | (with_reducible exact pin_Add.mono _ _ _ _)
      | (with_reducible exact pin_Drop.mono _ _ _)
      | (with_reducible exact pin_Is.mono _ _)
      | (with_reducible exact pin_Least.mono _ _)
      | (with_reducible exact pin_Raise.mono _ _ _ _ _)
      | (with_reducible exact sextonlaw17_pinned.mono _)
      | (with_reducible exact sextonref17_Add.mono _ _ _ _)
      | (with_reducible exact sextonref17_Drop.mono _ _ _)
      | (with_reducible exact sextonref17_Is.mono _ _)
      | (with_reducible exact sextonref17_Least.mono _ _)
      | (with_reducible exact sextonref17_Of.mono _ _ _)
      | (with_reducible exact sextonref17_Raise.mono _ _ _ _ _)
      | (with_reducible exact sextonref17_Same.mono _ _ _)
      | (with_reducible exact LeO.refl _)
      | (with_reducible exact LeO.none _)
      | (with_reducible refine LeO.ite ?_ ?_)
      | (with_reducible refine LeO.bind ?_ (fun _ => ?_))
      | exact ih0 _ _ _ _ _
      | exact ih1 _ _ _ _ _ _
      | exact ih2 _ _ _ _ _
      | exact pin_Add.mono _ _ _ _
      | exact pin_Drop.mono _ _ _
      | exact pin_Is.mono _ _
      | exact pin_Least.mono _ _
      | exact pin_Raise.mono _ _ _ _ _
      | exact sextonlaw17_pinned.mono _
      | exact sextonref17_Add.mono _ _ _ _
      | exact sextonref17_Drop.mono _ _ _
      | exact sextonref17_Is.mono _ _
      | exact sextonref17_Least.mono _ _
      | exact sextonref17_Of.mono _ _ _
      | exact sextonref17_Raise.mono _ _ _ _ _
      | exact sextonref17_Same.mono _ _ _
      | exact LeO.none _
      | refine LeO.ite ?_ ?_
      | refine LeO.bind ?_ (fun _ => ?_)
    · intro y0 y1 y2 y3 y4
      unfold sextonlaw17_PinDoes.l1
      repeat' first
      | (with_reducible exact ih0 _ _ _ _ _)
      | (with_reducible exact ih1 _ _ _ _ _ _)
      | (with_reducible exact ih2 _ _ _ _ _)
      | (with_reducible exact pin_Add.mono _ _ _ _)
      | (with_reducible exact pin_Drop.mono _ _ _)
      | (with_reducible exact pin_Is.mono _ _)
      | (with_reducible exact pin_Least.mono _ _)
      | (with_reducible exact pin_Raise.mono _ _ _ _ _)
      | (with_reducible exact sextonlaw17_pinned.mono _)
      | (with_reducible exact sextonref17_Add.mono _ _ _ _)
      | (with_reducible exact sextonref17_Drop.mono _ _ _)
      | (with_reducible exact sextonref17_Is.mono _ _)
      | (with_reducible exact sextonref17_Least.mono _ _)
      | (with_reducible exact sextonref17_Of.mono _ _ _)
      | (with_reducible exact sextonref17_Raise.mono _ _ _ _ _)
      | (with_reducible exact sextonref17_Same.mono _ _ _)
      | (with_reducible exact LeO.refl _)
      | (with_reducible exact LeO.none _)
      | (with_reducible refine LeO.ite ?_ ?_)
      | (with_reducible refine LeO.bind ?_ (fun _ => ?_))
      | exact ih0 _ _ _ _ _
      | exact ih1 _ _ _ _ _ _
      | exact ih2 _ _ _ _ _
      | exact pin_Add.mono _ _ _ _
      | exact pin_Drop.mono _ _ _
      | exact pin_Is.mono _ _
      | exact pin_Least.mono _ _
      | exact pin_Raise.mono _ _ _ _ _
      | exact sextonlaw17_pinned.mono _
      | exact sextonref17_Add.mono _ _ _ _
      | exact sextonref17_Drop.mono _ _ _
      | exact sextonref17_Is.mono _ _
      | exact sextonref17_Least.mono _ _
      | exact sextonref17_Of.mono _ _ _
      | exact sextonref17_Raise.mono _ _ _ _ _
      | exact sextonref17_Same.mono _ _ _
      | exact LeO.none _
      | refine LeO.ite ?_ ?_
      | refine LeO.bind ?_ (fun _ => ?_)
theorem sextonlaw17_PinDoes.mono : ∀ a0 a1 a2 a3 a4 a5 a6 k, LeO (sextonlaw17_PinDoes.f k a0 a1 a2 a3 a4 a5 a6) (sextonlaw17_PinDoes.f (k + 1) a0 a1 a2 a3 a4 a5 a6) := by
  intro a0 a1 a2 a3 a4 a5 a6 k
  obtain ⟨ih0, ih1, ih2⟩ := sextonlaw17_PinDoes.mono_l k
  unfold sextonlaw17_PinDoes.f
  repeat' first
      | (with_reducible exact ih0 _ _ _ _ _)
      | (with_reducible exact ih1 _ _ _ _ _ _)
      | (with_reducible exact ih2 _ _ _ _ _)
      | (with_reducible exact pin_Add.mono _ _ _ _)
      | (with_reducible exact pin_Drop.mono _ _ _)
      | (with_reducible exact pin_Is.mono _ _)
      | (with_reducible exact pin_Least.mono _ _)
      | (with_reducible exact pin_Raise.mono _ _ _ _ _)
      | (with_reducible exact sextonlaw17_pinned.mono _)
      | (with_reducible exact sextonref17_Add.mono _ _ _ _)
      | (with_reducible exact sextonref17_Drop.mono _ _ _)
      | (with_reducible exact sextonref17_Is.mono _ _)
      | (with_reducible exact sextonref17_Least.mono _ _)
      | (with_reducible exact sextonref17_Of.mono _ _ _)
      | (with_reducible exact sextonref17_Raise.mono _ _ _ _ _)
      | (with_reducible exact sextonref17_Same.mono _ _ _)
      | (with_reducible exact LeO.refl _)
      | (with_reducible exact LeO.none _)
      | (with_reducible refine LeO.ite ?_ ?_)
      | (with_reducible refine LeO.bind ?_ (fun _ => ?_))
      | exact ih0 _ _ _ _ _
      | exact ih1 _ _ _ _ _ _
      | exact ih2 _ _ _ _ _
      | exact pin_Add.mono _ _ _ _
      | exact pin_Drop.mono _ _ _
      | exact pin_Is.mono _ _
      | exact pin_Least.mono _ _
      | exact pin_Raise.mono _ _ _ _ _
      | exact sextonlaw17_pinned.mono _
      | exact sextonref17_Add.mono _ _ _ _
      | exact sextonref17_Drop.mono _ _ _
      | exact sextonref17_Is.mono _ _
      | exact sextonref17_Least.mono _ _
      | exact sextonref17_Of.mono _ _ _
      | exact sextonref17_Raise.mono _ _ _ _ _
      | exact sextonref17_Same.mono _ _ _
      | exact LeO.none _
      | refine LeO.ite ?_ ?_
      | refine LeO.bind ?_ (fun _ => ?_)
set_option maxHeartbeats 8000000 in
set_option maxRecDepth 100000 in
theorem sextonlaw17_PinDoes.calls (k : Nat) (A0 : Option Addr) (c0 : Nat) (l0 : List (S24)) (a1_0 : Int) (a1_1 : Int) (a2 : Int) (a3 : Int) (a4 : Int) (a5 : Int) (r : Bool) (w : World) (hr0 : Kd.C k24 w A0 l0.length l0) (hc0 : l0.length ≤ c0) (h : sextonlaw17_PinDoes.f k l0 a1_0 a1_1 a2 a3 a4 a5 = some r) (ht : r = true) :
    Calls Try.prog 3 #[.slice A0 l0.length c0, .agg #[.int .i64 a1_0, .int .i64 a1_1], .int .i64 a2, .int .i64 a3, .int .i64 a4, .int .i64 a5] w fun e w' => e = .returned (.bool r) ∧ Below w.heap.size w w' := by
  have hu24 := Try.underlying24
  have HT := Aside0.mk ht
  clear ht
  have HR0 := Aside0.mk hr0
  have HC0 := Aside0.mk hc0
  clear hr0 hc0
  have HB := Aside0.mk (Below.refl w.heap.size w)
  have H : (if (l0.length : Int) > 100 then (some true) else ((sextonref17_Own.f l0).bind fun t246 => ((pin_Add.f k l0 a1_0 a1_1).bind fun bt249 => ((sextonref17_Add.f k t246 a1_0 a1_1).bind fun bt253 => ((pin_Drop.f k l0 a2).bind fun bt257 => ((sextonref17_Drop.f k t246 a2).bind fun bt261 => ((pin_Of.f l0 a2).bind fun bt265 => ((sextonref17_Of.f k t246 a2).bind fun bt267 => ((pin_Least.f k l0).bind fun bt269 => ((sextonref17_Least.f k t246).bind fun bt271 => ((sextonref17_Same.f k bt249.1 bt253.1).bind fun t273 => (if t273 = true then (if bt249.2 = bt253.2 then ((sextonref17_Same.f k bt257.1 bt261.1).bind fun t274 => (if t274 = true then (if bt257.2 = bt261.2 then (if bt265.1 = bt267.1 then (if (bt265.2 == bt267.2) = true then (if bt269.1 = bt271.1 then (if (bt269.2 == bt271.2) = true then ((pin_Raise.f k a3 a4 a5 l0).bind fun t275 => ((sextonref17_Raise.f k a3 a4 a5 t246).bind fun t276 => (sextonlaw17_PinDoes.j0 k l0 t246 bt249.1 bt257.1 (t275 == t276)))) else (sextonlaw17_PinDoes.j0 k l0 t246 bt249.1 bt257.1 false)) else (sextonlaw17_PinDoes.j0 k l0 t246 bt249.1 bt257.1 false)) else (sextonlaw17_PinDoes.j0 k l0 t246 bt249.1 bt257.1 false)) else (sextonlaw17_PinDoes.j0 k l0 t246 bt249.1 bt257.1 false)) else (sextonlaw17_PinDoes.j0 k l0 t246 bt249.1 bt257.1 false)) else (sextonlaw17_PinDoes.j0 k l0 t246 bt249.1 bt257.1 false))) else (sextonlaw17_PinDoes.j0 k l0 t246 bt249.1 bt257.1 false)) else (sextonlaw17_PinDoes.j0 k l0 t246 bt249.1 bt257.1 false))))))))))))) = some r := h
  clear h
  by_cases c7 : (l0.length : Int) > 100
  · rw [if_pos c7] at H
    have c7b0 : decide (100 < (l0.length : Int)) = true := decide_eq_true c7
    have c7b1 : decide (100 < l0.length) = true := decide_eq_true (by omega)
    clear c7
    obtain rfl := Option.some.inj H
    go_enter Try.func3, Try.ntmps3
    go_wp2_with (first | ((with_reducible refine gate_dst (N := 7) rfl ?_); refine box_event ?hg (N := 7) ?hd (cs := #[.int .i64 a1_0, .int .i64 a1_1]) (t := 24) ?hr ?_; (case hd => rfl); (case hg => rfl); (case hr => first | (go_simp; done) | (go_simp; rfl)); intro gb245 hg w8 hbox hb; have n0_ := Aside0.mk (below_step (by repeat (first | (with_reducible first | exact HB.out | apply below_alloc | apply pw_below_drewN | apply below_drew1) | exact HB.out)) hb); have n1_ := Aside0.mk (hbox); have n2_ := Aside0.mk ((by rw [hg]; exact (below_size (by repeat (first | (with_reducible first | exact HB.out | apply below_alloc | apply pw_below_drewN | apply below_drew1) | exact HB.out))) : w.heap.size ≤ gb245)); have n3_ := Aside0.mk ((by rw [hg]; exact (below_size (by repeat (first | (with_reducible first | exact HB.out | apply below_alloc | apply pw_below_drewN | apply below_drew1) | exact HB.out))) : w.heap.size ≤ gb245)); clear HB; have HB := n0_; have BK245 := n1_; have GW245 := n2_; have GE245 := n3_; clear n0_ n1_ n2_ n3_; clear hb hbox hg))
    go_ret
    exact ⟨by first | rfl | (simp [errW_none, errW_some] <;> rfl) | (simp [*, errW_none, errW_some] <;> rfl), by repeat (first | (with_reducible first | exact HB.out | apply below_alloc | apply pw_below_drewN | apply below_drew1 | refine below_set ?_ GE245.out) | exact HB.out)⟩
  · rw [if_neg c7] at H
    have c7b0 : decide (100 < (l0.length : Int)) = false := decide_eq_false c7
    have c7b1 : decide (100 < l0.length) = false := decide_eq_false (by omega)
    clear c7
    replace H := Option.bind_eq_some_iff.mp H
    obtain ⟨t246, A90, H⟩ := H
    replace H : ((pin_Add.f k l0 a1_0 a1_1).bind fun bt249 => ((sextonref17_Add.f k t246 a1_0 a1_1).bind fun bt253 => ((pin_Drop.f k l0 a2).bind fun bt257 => ((sextonref17_Drop.f k t246 a2).bind fun bt261 => ((pin_Of.f l0 a2).bind fun bt265 => ((sextonref17_Of.f k t246 a2).bind fun bt267 => ((pin_Least.f k l0).bind fun bt269 => ((sextonref17_Least.f k t246).bind fun bt271 => ((sextonref17_Same.f k bt249.1 bt253.1).bind fun t273 => (if t273 = true then (if bt249.2 = bt253.2 then ((sextonref17_Same.f k bt257.1 bt261.1).bind fun t274 => (if t274 = true then (if bt257.2 = bt261.2 then (if bt265.1 = bt267.1 then (if (bt265.2 == bt267.2) = true then (if bt269.1 = bt271.1 then (if (bt269.2 == bt271.2) = true then ((pin_Raise.f k a3 a4 a5 l0).bind fun t275 => ((sextonref17_Raise.f k a3 a4 a5 t246).bind fun t276 => (sextonlaw17_PinDoes.j0 k l0 t246 bt249.1 bt257.1 (t275 == t276)))) else (sextonlaw17_PinDoes.j0 k l0 t246 bt249.1 bt257.1 false)) else (sextonlaw17_PinDoes.j0 k l0 t246 bt249.1 bt257.1 false)) else (sextonlaw17_PinDoes.j0 k l0 t246 bt249.1 bt257.1 false)) else (sextonlaw17_PinDoes.j0 k l0 t246 bt249.1 bt257.1 false)) else (sextonlaw17_PinDoes.j0 k l0 t246 bt249.1 bt257.1 false)) else (sextonlaw17_PinDoes.j0 k l0 t246 bt249.1 bt257.1 false))) else (sextonlaw17_PinDoes.j0 k l0 t246 bt249.1 bt257.1 false)) else (sextonlaw17_PinDoes.j0 k l0 t246 bt249.1 bt257.1 false))))))))))) = some r := H
    have A9 := Aside0.mk A90
    clear A90
    replace H := Option.bind_eq_some_iff.mp H
    obtain ⟨⟨t249, t252⟩, A100, H⟩ := H
    replace H : ((sextonref17_Add.f k t246 a1_0 a1_1).bind fun bt253 => ((pin_Drop.f k l0 a2).bind fun bt257 => ((sextonref17_Drop.f k t246 a2).bind fun bt261 => ((pin_Of.f l0 a2).bind fun bt265 => ((sextonref17_Of.f k t246 a2).bind fun bt267 => ((pin_Least.f k l0).bind fun bt269 => ((sextonref17_Least.f k t246).bind fun bt271 => ((sextonref17_Same.f k t249 bt253.1).bind fun t273 => (if t273 = true then (if t252 = bt253.2 then ((sextonref17_Same.f k bt257.1 bt261.1).bind fun t274 => (if t274 = true then (if bt257.2 = bt261.2 then (if bt265.1 = bt267.1 then (if (bt265.2 == bt267.2) = true then (if bt269.1 = bt271.1 then (if (bt269.2 == bt271.2) = true then ((pin_Raise.f k a3 a4 a5 l0).bind fun t275 => ((sextonref17_Raise.f k a3 a4 a5 t246).bind fun t276 => (sextonlaw17_PinDoes.j0 k l0 t246 t249 bt257.1 (t275 == t276)))) else (sextonlaw17_PinDoes.j0 k l0 t246 t249 bt257.1 false)) else (sextonlaw17_PinDoes.j0 k l0 t246 t249 bt257.1 false)) else (sextonlaw17_PinDoes.j0 k l0 t246 t249 bt257.1 false)) else (sextonlaw17_PinDoes.j0 k l0 t246 t249 bt257.1 false)) else (sextonlaw17_PinDoes.j0 k l0 t246 t249 bt257.1 false)) else (sextonlaw17_PinDoes.j0 k l0 t246 t249 bt257.1 false))) else (sextonlaw17_PinDoes.j0 k l0 t246 t249 bt257.1 false)) else (sextonlaw17_PinDoes.j0 k l0 t246 t249 bt257.1 false)))))))))) = some r := H
    have A10 := Aside0.mk A100
    clear A100
    replace H := Option.bind_eq_some_iff.mp H
    obtain ⟨⟨t253, t256⟩, A110, H⟩ := H
    replace H : ((pin_Drop.f k l0 a2).bind fun bt257 => ((sextonref17_Drop.f k t246 a2).bind fun bt261 => ((pin_Of.f l0 a2).bind fun bt265 => ((sextonref17_Of.f k t246 a2).bind fun bt267 => ((pin_Least.f k l0).bind fun bt269 => ((sextonref17_Least.f k t246).bind fun bt271 => ((sextonref17_Same.f k t249 t253).bind fun t273 => (if t273 = true then (if t252 = t256 then ((sextonref17_Same.f k bt257.1 bt261.1).bind fun t274 => (if t274 = true then (if bt257.2 = bt261.2 then (if bt265.1 = bt267.1 then (if (bt265.2 == bt267.2) = true then (if bt269.1 = bt271.1 then (if (bt269.2 == bt271.2) = true then ((pin_Raise.f k a3 a4 a5 l0).bind fun t275 => ((sextonref17_Raise.f k a3 a4 a5 t246).bind fun t276 => (sextonlaw17_PinDoes.j0 k l0 t246 t249 bt257.1 (t275 == t276)))) else (sextonlaw17_PinDoes.j0 k l0 t246 t249 bt257.1 false)) else (sextonlaw17_PinDoes.j0 k l0 t246 t249 bt257.1 false)) else (sextonlaw17_PinDoes.j0 k l0 t246 t249 bt257.1 false)) else (sextonlaw17_PinDoes.j0 k l0 t246 t249 bt257.1 false)) else (sextonlaw17_PinDoes.j0 k l0 t246 t249 bt257.1 false)) else (sextonlaw17_PinDoes.j0 k l0 t246 t249 bt257.1 false))) else (sextonlaw17_PinDoes.j0 k l0 t246 t249 bt257.1 false)) else (sextonlaw17_PinDoes.j0 k l0 t246 t249 bt257.1 false))))))))) = some r := H
    have A11 := Aside0.mk A110
    clear A110
    replace H := Option.bind_eq_some_iff.mp H
    obtain ⟨⟨t257, t258⟩, A120, H⟩ := H
    replace H : ((sextonref17_Drop.f k t246 a2).bind fun bt261 => ((pin_Of.f l0 a2).bind fun bt265 => ((sextonref17_Of.f k t246 a2).bind fun bt267 => ((pin_Least.f k l0).bind fun bt269 => ((sextonref17_Least.f k t246).bind fun bt271 => ((sextonref17_Same.f k t249 t253).bind fun t273 => (if t273 = true then (if t252 = t256 then ((sextonref17_Same.f k t257 bt261.1).bind fun t274 => (if t274 = true then (if t258 = bt261.2 then (if bt265.1 = bt267.1 then (if (bt265.2 == bt267.2) = true then (if bt269.1 = bt271.1 then (if (bt269.2 == bt271.2) = true then ((pin_Raise.f k a3 a4 a5 l0).bind fun t275 => ((sextonref17_Raise.f k a3 a4 a5 t246).bind fun t276 => (sextonlaw17_PinDoes.j0 k l0 t246 t249 t257 (t275 == t276)))) else (sextonlaw17_PinDoes.j0 k l0 t246 t249 t257 false)) else (sextonlaw17_PinDoes.j0 k l0 t246 t249 t257 false)) else (sextonlaw17_PinDoes.j0 k l0 t246 t249 t257 false)) else (sextonlaw17_PinDoes.j0 k l0 t246 t249 t257 false)) else (sextonlaw17_PinDoes.j0 k l0 t246 t249 t257 false)) else (sextonlaw17_PinDoes.j0 k l0 t246 t249 t257 false))) else (sextonlaw17_PinDoes.j0 k l0 t246 t249 t257 false)) else (sextonlaw17_PinDoes.j0 k l0 t246 t249 t257 false)))))))) = some r := H
    have A12 := Aside0.mk A120
    clear A120
    replace H := Option.bind_eq_some_iff.mp H
    obtain ⟨⟨t261, t262⟩, A130, H⟩ := H
    replace H : ((pin_Of.f l0 a2).bind fun bt265 => ((sextonref17_Of.f k t246 a2).bind fun bt267 => ((pin_Least.f k l0).bind fun bt269 => ((sextonref17_Least.f k t246).bind fun bt271 => ((sextonref17_Same.f k t249 t253).bind fun t273 => (if t273 = true then (if t252 = t256 then ((sextonref17_Same.f k t257 t261).bind fun t274 => (if t274 = true then (if t258 = t262 then (if bt265.1 = bt267.1 then (if (bt265.2 == bt267.2) = true then (if bt269.1 = bt271.1 then (if (bt269.2 == bt271.2) = true then ((pin_Raise.f k a3 a4 a5 l0).bind fun t275 => ((sextonref17_Raise.f k a3 a4 a5 t246).bind fun t276 => (sextonlaw17_PinDoes.j0 k l0 t246 t249 t257 (t275 == t276)))) else (sextonlaw17_PinDoes.j0 k l0 t246 t249 t257 false)) else (sextonlaw17_PinDoes.j0 k l0 t246 t249 t257 false)) else (sextonlaw17_PinDoes.j0 k l0 t246 t249 t257 false)) else (sextonlaw17_PinDoes.j0 k l0 t246 t249 t257 false)) else (sextonlaw17_PinDoes.j0 k l0 t246 t249 t257 false)) else (sextonlaw17_PinDoes.j0 k l0 t246 t249 t257 false))) else (sextonlaw17_PinDoes.j0 k l0 t246 t249 t257 false)) else (sextonlaw17_PinDoes.j0 k l0 t246 t249 t257 false))))))) = some r := H
    have A13 := Aside0.mk A130
    clear A130
    replace H := Option.bind_eq_some_iff.mp H
    obtain ⟨⟨t265, t266⟩, A140, H⟩ := H
    replace H : ((sextonref17_Of.f k t246 a2).bind fun bt267 => ((pin_Least.f k l0).bind fun bt269 => ((sextonref17_Least.f k t246).bind fun bt271 => ((sextonref17_Same.f k t249 t253).bind fun t273 => (if t273 = true then (if t252 = t256 then ((sextonref17_Same.f k t257 t261).bind fun t274 => (if t274 = true then (if t258 = t262 then (if t265 = bt267.1 then (if (t266 == bt267.2) = true then (if bt269.1 = bt271.1 then (if (bt269.2 == bt271.2) = true then ((pin_Raise.f k a3 a4 a5 l0).bind fun t275 => ((sextonref17_Raise.f k a3 a4 a5 t246).bind fun t276 => (sextonlaw17_PinDoes.j0 k l0 t246 t249 t257 (t275 == t276)))) else (sextonlaw17_PinDoes.j0 k l0 t246 t249 t257 false)) else (sextonlaw17_PinDoes.j0 k l0 t246 t249 t257 false)) else (sextonlaw17_PinDoes.j0 k l0 t246 t249 t257 false)) else (sextonlaw17_PinDoes.j0 k l0 t246 t249 t257 false)) else (sextonlaw17_PinDoes.j0 k l0 t246 t249 t257 false)) else (sextonlaw17_PinDoes.j0 k l0 t246 t249 t257 false))) else (sextonlaw17_PinDoes.j0 k l0 t246 t249 t257 false)) else (sextonlaw17_PinDoes.j0 k l0 t246 t249 t257 false)))))) = some r := H
    have A14 := Aside0.mk A140
    clear A140
    replace H := Option.bind_eq_some_iff.mp H
    obtain ⟨⟨t267, t268⟩, A150, H⟩ := H
    replace H : ((pin_Least.f k l0).bind fun bt269 => ((sextonref17_Least.f k t246).bind fun bt271 => ((sextonref17_Same.f k t249 t253).bind fun t273 => (if t273 = true then (if t252 = t256 then ((sextonref17_Same.f k t257 t261).bind fun t274 => (if t274 = true then (if t258 = t262 then (if t265 = t267 then (if (t266 == t268) = true then (if bt269.1 = bt271.1 then (if (bt269.2 == bt271.2) = true then ((pin_Raise.f k a3 a4 a5 l0).bind fun t275 => ((sextonref17_Raise.f k a3 a4 a5 t246).bind fun t276 => (sextonlaw17_PinDoes.j0 k l0 t246 t249 t257 (t275 == t276)))) else (sextonlaw17_PinDoes.j0 k l0 t246 t249 t257 false)) else (sextonlaw17_PinDoes.j0 k l0 t246 t249 t257 false)) else (sextonlaw17_PinDoes.j0 k l0 t246 t249 t257 false)) else (sextonlaw17_PinDoes.j0 k l0 t246 t249 t257 false)) else (sextonlaw17_PinDoes.j0 k l0 t246 t249 t257 false)) else (sextonlaw17_PinDoes.j0 k l0 t246 t249 t257 false))) else (sextonlaw17_PinDoes.j0 k l0 t246 t249 t257 false)) else (sextonlaw17_PinDoes.j0 k l0 t246 t249 t257 false))))) = some r := H
    have A15 := Aside0.mk A150
    clear A150
    replace H := Option.bind_eq_some_iff.mp H
    obtain ⟨⟨t269, t270⟩, A160, H⟩ := H
    replace H : ((sextonref17_Least.f k t246).bind fun bt271 => ((sextonref17_Same.f k t249 t253).bind fun t273 => (if t273 = true then (if t252 = t256 then ((sextonref17_Same.f k t257 t261).bind fun t274 => (if t274 = true then (if t258 = t262 then (if t265 = t267 then (if (t266 == t268) = true then (if t269 = bt271.1 then (if (t270 == bt271.2) = true then ((pin_Raise.f k a3 a4 a5 l0).bind fun t275 => ((sextonref17_Raise.f k a3 a4 a5 t246).bind fun t276 => (sextonlaw17_PinDoes.j0 k l0 t246 t249 t257 (t275 == t276)))) else (sextonlaw17_PinDoes.j0 k l0 t246 t249 t257 false)) else (sextonlaw17_PinDoes.j0 k l0 t246 t249 t257 false)) else (sextonlaw17_PinDoes.j0 k l0 t246 t249 t257 false)) else (sextonlaw17_PinDoes.j0 k l0 t246 t249 t257 false)) else (sextonlaw17_PinDoes.j0 k l0 t246 t249 t257 false)) else (sextonlaw17_PinDoes.j0 k l0 t246 t249 t257 false))) else (sextonlaw17_PinDoes.j0 k l0 t246 t249 t257 false)) else (sextonlaw17_PinDoes.j0 k l0 t246 t249 t257 false)))) = some r := H
    have A16 := Aside0.mk A160
    clear A160
    replace H := Option.bind_eq_some_iff.mp H
    obtain ⟨⟨t271, t272⟩, A170, H⟩ := H
    replace H : ((sextonref17_Same.f k t249 t253).bind fun t273 => (if t273 = true then (if t252 = t256 then ((sextonref17_Same.f k t257 t261).bind fun t274 => (if t274 = true then (if t258 = t262 then (if t265 = t267 then (if (t266 == t268) = true then (if t269 = t271 then (if (t270 == t272) = true then ((pin_Raise.f k a3 a4 a5 l0).bind fun t275 => ((sextonref17_Raise.f k a3 a4 a5 t246).bind fun t276 => (sextonlaw17_PinDoes.j0 k l0 t246 t249 t257 (t275 == t276)))) else (sextonlaw17_PinDoes.j0 k l0 t246 t249 t257 false)) else (sextonlaw17_PinDoes.j0 k l0 t246 t249 t257 false)) else (sextonlaw17_PinDoes.j0 k l0 t246 t249 t257 false)) else (sextonlaw17_PinDoes.j0 k l0 t246 t249 t257 false)) else (sextonlaw17_PinDoes.j0 k l0 t246 t249 t257 false)) else (sextonlaw17_PinDoes.j0 k l0 t246 t249 t257 false))) else (sextonlaw17_PinDoes.j0 k l0 t246 t249 t257 false)) else (sextonlaw17_PinDoes.j0 k l0 t246 t249 t257 false))) = some r := H
    have A17 := Aside0.mk A170
    clear A170
    have HC18 := Aside0.mk H
    clear H
    go_enter Try.func3, Try.ntmps3
    go_upto_region 12 with (first | ((with_reducible refine gate_dst (N := 7) rfl ?_); refine box_event ?hg (N := 7) ?hd (cs := #[.int .i64 a1_0, .int .i64 a1_1]) (t := 24) ?hr ?_; (case hd => rfl); (case hg => rfl); (case hr => first | (go_simp; done) | (go_simp; rfl)); intro gb245 hg w19 hbox hb; have n0_ := Aside0.mk (below_step (by repeat (first | (with_reducible first | exact HB.out | apply below_alloc | apply pw_below_drewN | apply below_drew1) | exact HB.out)) hb); have n1_ := Aside0.mk (hbox); have n2_ := Aside0.mk ((by rw [hg]; exact (below_size (by repeat (first | (with_reducible first | exact HB.out | apply below_alloc | apply pw_below_drewN | apply below_drew1) | exact HB.out))) : w.heap.size ≤ gb245)); have n3_ := Aside0.mk ((by rw [hg]; exact (below_size (by repeat (first | (with_reducible first | exact HB.out | apply below_alloc | apply pw_below_drewN | apply below_drew1) | exact HB.out))) : w.heap.size ≤ gb245)); clear HB; have HB := n0_; have BK245 := n1_; have GW245 := n2_; have GE245 := n3_; clear n0_ n1_ n2_ n3_; clear hb hbox hg) | ((with_reducible refine gate_callee (f := 8) rfl ?_); refine goesL_ (some 37) rfl rfl Try.func8 (by kernel_rfl) rfl #[.slice A0 l0.length c0] rfl (by (try simp only [List.map_toArray, List.map_cons, List.map_nil]); first | done | rfl | (simp only [List.length_drop, List.length_take]; rfl)) ?_; (with_reducible refine (sextonref17_Own.calls _ _ l0 t246 _ ?side1 ?side2 A9.out).mono ?_); (case side1 => repeat (first | exact (Kd.C_below HR0.out HB.out) | (with_reducible refine Kd.C_alloc ?_ _) | (with_reducible refine Kd.C_drewN ?_ _) | (with_reducible refine Kd.C_drew ?_))); (case side2 => exact HC0.out); rintro e w20 ⟨v247, rfl, ho0, hb⟩; refine ⟨_, rfl, ?_⟩; have n0_ := Aside0.mk (Kd.R_lower (Kd.R_newB ho0 (g := gb245) (o := .cells #[.int .i64 a1_0, .int .i64 a1_1] 24 (0, 0)) (by (with_reducible repeat (first | refine blk_drewN ?_ _ | refine blk_drew ?_ | refine blk_alloc ?_ _)); exact BK245.out)) (below_size (by repeat (first | (with_reducible first | exact HB.out | apply below_alloc | apply pw_below_drewN | apply below_drew1 | refine below_set ?_ GE245.out) | exact HB.out)))); have n1_ := Aside0.mk (blk_below (g := gb245) (o := .cells #[.int .i64 a1_0, .int .i64 a1_1] 24 (0, 0)) (by (with_reducible repeat (first | refine blk_drewN ?_ _ | refine blk_drew ?_ | refine blk_alloc ?_ _)); exact BK245.out) hb); have n2_ := Aside0.mk (below_step (by repeat (first | (with_reducible first | exact HB.out | apply below_alloc | apply pw_below_drewN | apply below_drew1 | refine below_set ?_ GE245.out) | exact HB.out)) hb); clear BK245; clear HB; have HO248 := n0_; have BK245 := n1_; have HB := n2_; clear n0_ n1_ n2_; (try clear hb); (try clear hb2); (try clear hk); (try clear hi); (try clear ho0); have hcz21_0 : w20.cell? ⟨gb245, 0, none⟩ = some (.int .i64 a1_0) := (blk_cell BK245.out 0).trans rfl; have hcz21_1 : w20.cell? ⟨gb245, 1, none⟩ = some (.int .i64 a1_1) := (blk_cell BK245.out 1).trans rfl; have hfz21_0 := blk_frozen BK245.out 0; have hfz21_1 := blk_frozen BK245.out 1) | ((with_reducible refine gate_callee (f := 9) rfl ?_); refine goesL_ (some 41) rfl rfl Try.func9 (by kernel_rfl) rfl #[.slice A0 l0.length c0, .agg #[.int .i64 a1_0, .int .i64 a1_1]] rfl (by (try simp only [List.map_toArray, List.map_cons, List.map_nil]); first | done | rfl | (simp only [List.length_drop, List.length_take]; rfl)) ?_; (with_reducible refine (pin_Add.calls k _ _ l0 a1_0 a1_1 t249 t252 _ ?side1 ?side2 A10.out).mono ?_); (case side1 => repeat (first | exact (Kd.C_below HR0.out HB.out) | (with_reducible refine Kd.C_alloc ?_ _) | (with_reducible refine Kd.C_drewN ?_ _) | (with_reducible refine Kd.C_drew ?_))); (case side2 => exact HC0.out); rintro e w22 ⟨v250, rfl, ho0, hb⟩; refine ⟨_, rfl, ?_⟩; have n0_ := Aside0.mk (Kd.R_elder' (by (with_reducible repeat (first | apply Kd.R_alloc | apply Kd.R_drewN | apply Kd.R_drew)); exact HO248.out) (Kd.R_base ho0) hb); have n1_ := Aside0.mk (Kd.R_lower (Kd.R_newB (Kd.R_new' ho0 (Kd.R_lt (by (with_reducible repeat (first | apply Kd.R_alloc | apply Kd.R_drewN | apply Kd.R_drew)); exact HO248.out))) (g := gb245) (o := .cells #[.int .i64 a1_0, .int .i64 a1_1] 24 (0, 0)) (by (with_reducible repeat (first | refine blk_drewN ?_ _ | refine blk_drew ?_ | refine blk_alloc ?_ _)); exact BK245.out)) (below_size (by repeat (first | (with_reducible first | exact HB.out | apply below_alloc | apply pw_below_drewN | apply below_drew1 | refine below_set ?_ GE245.out) | exact HB.out)))); have n2_ := Aside0.mk (blk_below (g := gb245) (o := .cells #[.int .i64 a1_0, .int .i64 a1_1] 24 (0, 0)) (by (with_reducible repeat (first | refine blk_drewN ?_ _ | refine blk_drew ?_ | refine blk_alloc ?_ _)); exact BK245.out) hb); have n3_ := Aside0.mk (below_step (by repeat (first | (with_reducible first | exact HB.out | apply below_alloc | apply pw_below_drewN | apply below_drew1 | refine below_set ?_ GE245.out) | exact HB.out)) hb); clear HO248; clear BK245; clear HB; have HO248 := n0_; have HO251 := n1_; have BK245 := n2_; have HB := n3_; clear n0_ n1_ n2_ n3_; (try clear hb); (try clear hb2); (try clear hk); (try clear hi); (try clear ho0); have hcz23_0 : w22.cell? ⟨gb245, 0, none⟩ = some (.int .i64 a1_0) := (blk_cell BK245.out 0).trans rfl; have hcz23_1 : w22.cell? ⟨gb245, 1, none⟩ = some (.int .i64 a1_1) := (blk_cell BK245.out 1).trans rfl; have hfz23_0 := blk_frozen BK245.out 0; have hfz23_1 := blk_frozen BK245.out 1; obtain ⟨Ao24, co24, eo24⟩ := Kd.R_slice HO248.out; subst eo24) | ((with_reducible refine gate_callee (f := 10) rfl ?_); refine goesL_ (some 47) rfl rfl Try.func10 (by kernel_rfl) rfl #[.slice Ao24 t246.length co24, .agg #[.int .i64 a1_0, .int .i64 a1_1]] rfl (by (try simp only [List.map_toArray, List.map_cons, List.map_nil]); first | done | rfl | (simp only [List.length_drop, List.length_take]; rfl)) ?_; (with_reducible refine (sextonref17_Add.calls k _ _ t246 a1_0 a1_1 t253 t256 _ ?side1 ?side2 A11.out).mono ?_); (case side1 => repeat (first | exact (Kd.R_reads' HO248.out).2.2 | (with_reducible refine Kd.C_alloc ?_ _) | (with_reducible refine Kd.C_drewN ?_ _) | (with_reducible refine Kd.C_drew ?_))); (case side2 => exact (Kd.R_reads' HO248.out).2.1); rintro e w25 ⟨v254, rfl, ho0, hb⟩; refine ⟨_, rfl, ?_⟩; have n0_ := Aside0.mk (Kd.R_elder' (by (with_reducible repeat (first | apply Kd.R_alloc | apply Kd.R_drewN | apply Kd.R_drew)); exact HO248.out) (Kd.R_base ho0) hb); have n1_ := Aside0.mk (Kd.R_elder' (by (with_reducible repeat (first | apply Kd.R_alloc | apply Kd.R_drewN | apply Kd.R_drew)); exact HO251.out) (Kd.R_base ho0) hb); have n2_ := Aside0.mk (Kd.R_lower (Kd.R_newB (Kd.R_new' (Kd.R_new' ho0 (Kd.R_lt (by (with_reducible repeat (first | apply Kd.R_alloc | apply Kd.R_drewN | apply Kd.R_drew)); exact HO248.out))) (Kd.R_lt (by (with_reducible repeat (first | apply Kd.R_alloc | apply Kd.R_drewN | apply Kd.R_drew)); exact HO251.out))) (g := gb245) (o := .cells #[.int .i64 a1_0, .int .i64 a1_1] 24 (0, 0)) (by (with_reducible repeat (first | refine blk_drewN ?_ _ | refine blk_drew ?_ | refine blk_alloc ?_ _)); exact BK245.out)) (below_size (by repeat (first | (with_reducible first | exact HB.out | apply below_alloc | apply pw_below_drewN | apply below_drew1 | refine below_set ?_ GE245.out) | exact HB.out)))); have n3_ := Aside0.mk (blk_below (g := gb245) (o := .cells #[.int .i64 a1_0, .int .i64 a1_1] 24 (0, 0)) (by (with_reducible repeat (first | refine blk_drewN ?_ _ | refine blk_drew ?_ | refine blk_alloc ?_ _)); exact BK245.out) hb); have n4_ := Aside0.mk (below_step (by repeat (first | (with_reducible first | exact HB.out | apply below_alloc | apply pw_below_drewN | apply below_drew1 | refine below_set ?_ GE245.out) | exact HB.out)) hb); clear HO248; clear HO251; clear BK245; clear HB; have HO248 := n0_; have HO251 := n1_; have HO255 := n2_; have BK245 := n3_; have HB := n4_; clear n0_ n1_ n2_ n3_ n4_; (try clear hb); (try clear hb2); (try clear hk); (try clear hi); (try clear ho0)) | ((with_reducible refine gate_callee (f := 11) rfl ?_); refine goesL_ (some 53) rfl rfl Try.func11 (by kernel_rfl) rfl #[.slice A0 l0.length c0, .int .i64 a2] rfl (by (try simp only [List.map_toArray, List.map_cons, List.map_nil]); first | done | rfl | (simp only [List.length_drop, List.length_take]; rfl)) ?_; (with_reducible refine (pin_Drop.calls k _ _ l0 a2 t257 t258 _ ?side1 ?side2 A12.out).mono ?_); (case side1 => repeat (first | exact (Kd.C_below HR0.out HB.out) | (with_reducible refine Kd.C_alloc ?_ _) | (with_reducible refine Kd.C_drewN ?_ _) | (with_reducible refine Kd.C_drew ?_))); (case side2 => exact HC0.out); rintro e w26 ⟨v259, rfl, ho0, hb⟩; refine ⟨_, rfl, ?_⟩; have n0_ := Aside0.mk (Kd.R_elder' (by (with_reducible repeat (first | apply Kd.R_alloc | apply Kd.R_drewN | apply Kd.R_drew)); exact HO248.out) (Kd.R_base ho0) hb); have n1_ := Aside0.mk (Kd.R_elder' (by (with_reducible repeat (first | apply Kd.R_alloc | apply Kd.R_drewN | apply Kd.R_drew)); exact HO251.out) (Kd.R_base ho0) hb); have n2_ := Aside0.mk (Kd.R_elder' (by (with_reducible repeat (first | apply Kd.R_alloc | apply Kd.R_drewN | apply Kd.R_drew)); exact HO255.out) (Kd.R_base ho0) hb); have n3_ := Aside0.mk (Kd.R_lower (Kd.R_newB (Kd.R_new' (Kd.R_new' (Kd.R_new' ho0 (Kd.R_lt (by (with_reducible repeat (first | apply Kd.R_alloc | apply Kd.R_drewN | apply Kd.R_drew)); exact HO248.out))) (Kd.R_lt (by (with_reducible repeat (first | apply Kd.R_alloc | apply Kd.R_drewN | apply Kd.R_drew)); exact HO251.out))) (Kd.R_lt (by (with_reducible repeat (first | apply Kd.R_alloc | apply Kd.R_drewN | apply Kd.R_drew)); exact HO255.out))) (g := gb245) (o := .cells #[.int .i64 a1_0, .int .i64 a1_1] 24 (0, 0)) (by (with_reducible repeat (first | refine blk_drewN ?_ _ | refine blk_drew ?_ | refine blk_alloc ?_ _)); exact BK245.out)) (below_size (by repeat (first | (with_reducible first | exact HB.out | apply below_alloc | apply pw_below_drewN | apply below_drew1 | refine below_set ?_ GE245.out) | exact HB.out)))); have n4_ := Aside0.mk (blk_below (g := gb245) (o := .cells #[.int .i64 a1_0, .int .i64 a1_1] 24 (0, 0)) (by (with_reducible repeat (first | refine blk_drewN ?_ _ | refine blk_drew ?_ | refine blk_alloc ?_ _)); exact BK245.out) hb); have n5_ := Aside0.mk (below_step (by repeat (first | (with_reducible first | exact HB.out | apply below_alloc | apply pw_below_drewN | apply below_drew1 | refine below_set ?_ GE245.out) | exact HB.out)) hb); clear HO248; clear HO251; clear HO255; clear BK245; clear HB; have HO248 := n0_; have HO251 := n1_; have HO255 := n2_; have HO260 := n3_; have BK245 := n4_; have HB := n5_; clear n0_ n1_ n2_ n3_ n4_ n5_; (try clear hb); (try clear hb2); (try clear hk); (try clear hi); (try clear ho0)) | ((with_reducible refine gate_callee (f := 12) rfl ?_); refine goesL_ (some 59) rfl rfl Try.func12 (by kernel_rfl) rfl #[.slice Ao24 t246.length co24, .int .i64 a2] rfl (by (try simp only [List.map_toArray, List.map_cons, List.map_nil]); first | done | rfl | (simp only [List.length_drop, List.length_take]; rfl)) ?_; (with_reducible refine (sextonref17_Drop.calls k _ _ t246 a2 t261 t262 _ ?side1 ?side2 A13.out).mono ?_); (case side1 => repeat (first | exact (Kd.R_reads' HO248.out).2.2 | (with_reducible refine Kd.C_alloc ?_ _) | (with_reducible refine Kd.C_drewN ?_ _) | (with_reducible refine Kd.C_drew ?_))); (case side2 => exact (Kd.R_reads' HO248.out).2.1); rintro e w27 ⟨v263, rfl, ho0, hb⟩; refine ⟨_, rfl, ?_⟩; have n0_ := Aside0.mk (Kd.R_elder' (by (with_reducible repeat (first | apply Kd.R_alloc | apply Kd.R_drewN | apply Kd.R_drew)); exact HO248.out) (Kd.R_base ho0) hb); have n1_ := Aside0.mk (Kd.R_elder' (by (with_reducible repeat (first | apply Kd.R_alloc | apply Kd.R_drewN | apply Kd.R_drew)); exact HO251.out) (Kd.R_base ho0) hb); have n2_ := Aside0.mk (Kd.R_elder' (by (with_reducible repeat (first | apply Kd.R_alloc | apply Kd.R_drewN | apply Kd.R_drew)); exact HO255.out) (Kd.R_base ho0) hb); have n3_ := Aside0.mk (Kd.R_elder' (by (with_reducible repeat (first | apply Kd.R_alloc | apply Kd.R_drewN | apply Kd.R_drew)); exact HO260.out) (Kd.R_base ho0) hb); have n4_ := Aside0.mk (Kd.R_lower (Kd.R_newB (Kd.R_new' (Kd.R_new' (Kd.R_new' (Kd.R_new' ho0 (Kd.R_lt (by (with_reducible repeat (first | apply Kd.R_alloc | apply Kd.R_drewN | apply Kd.R_drew)); exact HO248.out))) (Kd.R_lt (by (with_reducible repeat (first | apply Kd.R_alloc | apply Kd.R_drewN | apply Kd.R_drew)); exact HO251.out))) (Kd.R_lt (by (with_reducible repeat (first | apply Kd.R_alloc | apply Kd.R_drewN | apply Kd.R_drew)); exact HO255.out))) (Kd.R_lt (by (with_reducible repeat (first | apply Kd.R_alloc | apply Kd.R_drewN | apply Kd.R_drew)); exact HO260.out))) (g := gb245) (o := .cells #[.int .i64 a1_0, .int .i64 a1_1] 24 (0, 0)) (by (with_reducible repeat (first | refine blk_drewN ?_ _ | refine blk_drew ?_ | refine blk_alloc ?_ _)); exact BK245.out)) (below_size (by repeat (first | (with_reducible first | exact HB.out | apply below_alloc | apply pw_below_drewN | apply below_drew1 | refine below_set ?_ GE245.out) | exact HB.out)))); have n5_ := Aside0.mk (blk_below (g := gb245) (o := .cells #[.int .i64 a1_0, .int .i64 a1_1] 24 (0, 0)) (by (with_reducible repeat (first | refine blk_drewN ?_ _ | refine blk_drew ?_ | refine blk_alloc ?_ _)); exact BK245.out) hb); have n6_ := Aside0.mk (below_step (by repeat (first | (with_reducible first | exact HB.out | apply below_alloc | apply pw_below_drewN | apply below_drew1 | refine below_set ?_ GE245.out) | exact HB.out)) hb); clear HO248; clear HO251; clear HO255; clear HO260; clear BK245; clear HB; have HO248 := n0_; have HO251 := n1_; have HO255 := n2_; have HO260 := n3_; have HO264 := n4_; have BK245 := n5_; have HB := n6_; clear n0_ n1_ n2_ n3_ n4_ n5_ n6_; (try clear hb); (try clear hb2); (try clear hk); (try clear hi); (try clear ho0)) | ((with_reducible refine gate_callee (f := 13) rfl ?_); refine goesL_ (some 65) rfl rfl Try.func13 (by kernel_rfl) rfl #[.slice A0 l0.length c0, .int .i64 a2] rfl (by (try simp only [List.map_toArray, List.map_cons, List.map_nil]); first | done | rfl | (simp only [List.length_drop, List.length_take]; rfl)) ?_; (with_reducible refine (pin_Of.calls _ _ l0 a2 t265 t266 _ ?side1 ?side2 A14.out).mono ?_); (case side1 => repeat (first | exact (Kd.C_below HR0.out HB.out) | (with_reducible refine Kd.C_alloc ?_ _) | (with_reducible refine Kd.C_drewN ?_ _) | (with_reducible refine Kd.C_drew ?_))); (case side2 => exact HC0.out); rintro e w28 ⟨rfl, hb⟩; refine ⟨_, rfl, ?_⟩; have n0_ := Aside0.mk (Kd.R_below (by (with_reducible repeat (first | apply Kd.R_alloc | apply Kd.R_drewN | apply Kd.R_drew)); exact HO248.out) hb); have n1_ := Aside0.mk (Kd.R_below (by (with_reducible repeat (first | apply Kd.R_alloc | apply Kd.R_drewN | apply Kd.R_drew)); exact HO251.out) hb); have n2_ := Aside0.mk (Kd.R_below (by (with_reducible repeat (first | apply Kd.R_alloc | apply Kd.R_drewN | apply Kd.R_drew)); exact HO255.out) hb); have n3_ := Aside0.mk (Kd.R_below (by (with_reducible repeat (first | apply Kd.R_alloc | apply Kd.R_drewN | apply Kd.R_drew)); exact HO260.out) hb); have n4_ := Aside0.mk (Kd.R_below (by (with_reducible repeat (first | apply Kd.R_alloc | apply Kd.R_drewN | apply Kd.R_drew)); exact HO264.out) hb); have n5_ := Aside0.mk (blk_below (g := gb245) (o := .cells #[.int .i64 a1_0, .int .i64 a1_1] 24 (0, 0)) (by (with_reducible repeat (first | refine blk_drewN ?_ _ | refine blk_drew ?_ | refine blk_alloc ?_ _)); exact BK245.out) hb); have n6_ := Aside0.mk (below_step (by repeat (first | (with_reducible first | exact HB.out | apply below_alloc | apply pw_below_drewN | apply below_drew1 | refine below_set ?_ GE245.out) | exact HB.out)) hb); clear HO248; clear HO251; clear HO255; clear HO260; clear HO264; clear BK245; clear HB; have HO248 := n0_; have HO251 := n1_; have HO255 := n2_; have HO260 := n3_; have HO264 := n4_; have BK245 := n5_; have HB := n6_; clear n0_ n1_ n2_ n3_ n4_ n5_ n6_; (try clear hb); (try clear hb2); (try clear hk); (try clear hi)) | ((with_reducible refine gate_callee (f := 14) rfl ?_); refine goesL_ (some 71) rfl rfl Try.func14 (by kernel_rfl) rfl #[.slice Ao24 t246.length co24, .int .i64 a2] rfl (by (try simp only [List.map_toArray, List.map_cons, List.map_nil]); first | done | rfl | (simp only [List.length_drop, List.length_take]; rfl)) ?_; (with_reducible refine (sextonref17_Of.calls k _ _ t246 a2 t267 t268 _ ?side1 ?side2 A15.out).mono ?_); (case side1 => repeat (first | exact (Kd.R_reads' HO248.out).2.2 | (with_reducible refine Kd.C_alloc ?_ _) | (with_reducible refine Kd.C_drewN ?_ _) | (with_reducible refine Kd.C_drew ?_))); (case side2 => exact (Kd.R_reads' HO248.out).2.1); rintro e w' ⟨rfl, ⟨nd, rfl⟩⟩; refine ⟨_, rfl, ?_⟩) | ((with_reducible refine gate_callee (f := 15) rfl ?_); refine goesL_ (some 76) rfl rfl Try.func15 (by kernel_rfl) rfl #[.slice A0 l0.length c0] rfl (by (try simp only [List.map_toArray, List.map_cons, List.map_nil]); first | done | rfl | (simp only [List.length_drop, List.length_take]; rfl)) ?_; (with_reducible refine (pin_Least.calls k _ _ l0 t269 t270 _ ?side1 ?side2 A16.out).mono ?_); (case side1 => repeat (first | exact (Kd.C_below HR0.out (by repeat (first | (with_reducible first | exact HB.out | apply below_alloc | apply pw_below_drewN | apply below_drew1 | refine below_set ?_ GE245.out) | exact HB.out))) | (with_reducible refine Kd.C_alloc ?_ _) | (with_reducible refine Kd.C_drewN ?_ _) | (with_reducible refine Kd.C_drew ?_))); (case side2 => exact HC0.out); rintro e w29 ⟨rfl, hb⟩; refine ⟨_, rfl, ?_⟩; have n0_ := Aside0.mk (Kd.R_below (by (with_reducible repeat (first | apply Kd.R_alloc | apply Kd.R_drewN | apply Kd.R_drew)); exact HO248.out) hb); have n1_ := Aside0.mk (Kd.R_below (by (with_reducible repeat (first | apply Kd.R_alloc | apply Kd.R_drewN | apply Kd.R_drew)); exact HO251.out) hb); have n2_ := Aside0.mk (Kd.R_below (by (with_reducible repeat (first | apply Kd.R_alloc | apply Kd.R_drewN | apply Kd.R_drew)); exact HO255.out) hb); have n3_ := Aside0.mk (Kd.R_below (by (with_reducible repeat (first | apply Kd.R_alloc | apply Kd.R_drewN | apply Kd.R_drew)); exact HO260.out) hb); have n4_ := Aside0.mk (Kd.R_below (by (with_reducible repeat (first | apply Kd.R_alloc | apply Kd.R_drewN | apply Kd.R_drew)); exact HO264.out) hb); have n5_ := Aside0.mk (blk_below (g := gb245) (o := .cells #[.int .i64 a1_0, .int .i64 a1_1] 24 (0, 0)) (by (with_reducible repeat (first | refine blk_drewN ?_ _ | refine blk_drew ?_ | refine blk_alloc ?_ _)); exact BK245.out) hb); have n6_ := Aside0.mk (below_step (by repeat (first | (with_reducible first | exact HB.out | apply below_alloc | apply pw_below_drewN | apply below_drew1 | refine below_set ?_ GE245.out) | exact HB.out)) hb); clear HO248; clear HO251; clear HO255; clear HO260; clear HO264; clear BK245; clear HB; have HO248 := n0_; have HO251 := n1_; have HO255 := n2_; have HO260 := n3_; have HO264 := n4_; have BK245 := n5_; have HB := n6_; clear n0_ n1_ n2_ n3_ n4_ n5_ n6_; (try clear hb); (try clear hb2); (try clear hk); (try clear hi)) | ((with_reducible refine gate_callee (f := 16) rfl ?_); refine goesL_ (some 81) rfl rfl Try.func16 (by kernel_rfl) rfl #[.slice Ao24 t246.length co24] rfl (by (try simp only [List.map_toArray, List.map_cons, List.map_nil]); first | done | rfl | (simp only [List.length_drop, List.length_take]; rfl)) ?_; (with_reducible refine (sextonref17_Least.calls k _ _ t246 t271 t272 _ ?side1 ?side2 A17.out).mono ?_); (case side1 => repeat (first | exact (Kd.R_reads' HO248.out).2.2 | (with_reducible refine Kd.C_alloc ?_ _) | (with_reducible refine Kd.C_drewN ?_ _) | (with_reducible refine Kd.C_drew ?_))); (case side2 => exact (Kd.R_reads' HO248.out).2.1); rintro e w30 ⟨rfl, hb⟩; refine ⟨_, rfl, ?_⟩; have n0_ := Aside0.mk (Kd.R_below (by (with_reducible repeat (first | apply Kd.R_alloc | apply Kd.R_drewN | apply Kd.R_drew)); exact HO248.out) hb); have n1_ := Aside0.mk (Kd.R_below (by (with_reducible repeat (first | apply Kd.R_alloc | apply Kd.R_drewN | apply Kd.R_drew)); exact HO251.out) hb); have n2_ := Aside0.mk (Kd.R_below (by (with_reducible repeat (first | apply Kd.R_alloc | apply Kd.R_drewN | apply Kd.R_drew)); exact HO255.out) hb); have n3_ := Aside0.mk (Kd.R_below (by (with_reducible repeat (first | apply Kd.R_alloc | apply Kd.R_drewN | apply Kd.R_drew)); exact HO260.out) hb); have n4_ := Aside0.mk (Kd.R_below (by (with_reducible repeat (first | apply Kd.R_alloc | apply Kd.R_drewN | apply Kd.R_drew)); exact HO264.out) hb); have n5_ := Aside0.mk (blk_below (g := gb245) (o := .cells #[.int .i64 a1_0, .int .i64 a1_1] 24 (0, 0)) (by (with_reducible repeat (first | refine blk_drewN ?_ _ | refine blk_drew ?_ | refine blk_alloc ?_ _)); exact BK245.out) hb); have n6_ := Aside0.mk (below_step (by repeat (first | (with_reducible first | exact HB.out | apply below_alloc | apply pw_below_drewN | apply below_drew1 | refine below_set ?_ GE245.out) | exact HB.out)) hb); clear HO248; clear HO251; clear HO255; clear HO260; clear HO264; clear BK245; clear HB; have HO248 := n0_; have HO251 := n1_; have HO255 := n2_; have HO260 := n3_; have HO264 := n4_; have BK245 := n5_; have HB := n6_; clear n0_ n1_ n2_ n3_ n4_ n5_ n6_; (try clear hb); (try clear hb2); (try clear hk); (try clear hi)))
    (try simp only [Act.put, List.setIfInBounds_toArray, List.set_cons_zero, List.set_cons_succ])
    go_cut [30] (fun v30 wc => ∃ (kq : Nat) (x30_17 : Bool), v30 = .bool x30_17 ∧ Aside0 (sextonlaw17_PinDoes.j0 kq l0 t246 t249 t257 x30_17 = some r) ∧ Aside0 (kq ≤ k) ∧ Aside0 (Kd.R k24 24 wc w.heap.size (fun k_ => some k_ ≠ (v250 : Value).ownBlock ∧ some k_ ≠ (v259 : Value).ownBlock ∧ k_ ≠ gb245) (.slice Ao24 t246.length co24) t246) ∧ Aside0 (Kd.R k24 24 wc w.heap.size (fun k_ => some k_ ≠ ((.slice Ao24 t246.length co24) : Value).ownBlock ∧ some k_ ≠ (v259 : Value).ownBlock ∧ k_ ≠ gb245) v250 t249) ∧ Aside0 (Kd.R k24 24 wc w.heap.size (fun k_ => some k_ ≠ ((.slice Ao24 t246.length co24) : Value).ownBlock ∧ some k_ ≠ (v250 : Value).ownBlock ∧ k_ ≠ gb245) v259 t257) ∧ Aside0 (wc.heap[gb245]? = some (.cells #[.int .i64 a1_0, .int .i64 a1_1] 24 (0, 0))) ∧ Aside0 (Below w.heap.size w wc))
    case first =>
      have H := HC18.out
      clear HC18
      replace H := Option.bind_eq_some_iff.mp H
      obtain ⟨t273, A310, H⟩ := H
      replace H : (if t273 = true then (if t252 = t256 then ((sextonref17_Same.f k t257 t261).bind fun t274 => (if t274 = true then (if t258 = t262 then (if t265 = t267 then (if (t266 == t268) = true then (if t269 = t271 then (if (t270 == t272) = true then ((pin_Raise.f k a3 a4 a5 l0).bind fun t275 => ((sextonref17_Raise.f k a3 a4 a5 t246).bind fun t276 => (sextonlaw17_PinDoes.j0 k l0 t246 t249 t257 (t275 == t276)))) else (sextonlaw17_PinDoes.j0 k l0 t246 t249 t257 false)) else (sextonlaw17_PinDoes.j0 k l0 t246 t249 t257 false)) else (sextonlaw17_PinDoes.j0 k l0 t246 t249 t257 false)) else (sextonlaw17_PinDoes.j0 k l0 t246 t249 t257 false)) else (sextonlaw17_PinDoes.j0 k l0 t246 t249 t257 false)) else (sextonlaw17_PinDoes.j0 k l0 t246 t249 t257 false))) else (sextonlaw17_PinDoes.j0 k l0 t246 t249 t257 false)) else (sextonlaw17_PinDoes.j0 k l0 t246 t249 t257 false)) = some r := H
      have A31 := Aside0.mk A310
      clear A310
      by_cases c32 : t273 = true
      · subst c32
        have H1 : (if t252 = t256 then ((sextonref17_Same.f k t257 t261).bind fun t274 => (if t274 = true then (if t258 = t262 then (if t265 = t267 then (if (t266 == t268) = true then (if t269 = t271 then (if (t270 == t272) = true then ((pin_Raise.f k a3 a4 a5 l0).bind fun t275 => ((sextonref17_Raise.f k a3 a4 a5 t246).bind fun t276 => (sextonlaw17_PinDoes.j0 k l0 t246 t249 t257 (t275 == t276)))) else (sextonlaw17_PinDoes.j0 k l0 t246 t249 t257 false)) else (sextonlaw17_PinDoes.j0 k l0 t246 t249 t257 false)) else (sextonlaw17_PinDoes.j0 k l0 t246 t249 t257 false)) else (sextonlaw17_PinDoes.j0 k l0 t246 t249 t257 false)) else (sextonlaw17_PinDoes.j0 k l0 t246 t249 t257 false)) else (sextonlaw17_PinDoes.j0 k l0 t246 t249 t257 false))) else (sextonlaw17_PinDoes.j0 k l0 t246 t249 t257 false)) = some r := by rw [if_pos rfl] at H; exact H
        clear H
        have H := H1
        clear H1
        by_cases c33 : t252 = t256
        · rw [if_pos c33] at H
          have c33b0 : (t252 == t256) = true := beq_iff_eq.mpr c33
          have c33b1 : (t252 != t256) = false := bne_eq_false_iff_eq.mpr c33
          clear c33
          (first | rw [c33b0] | (simp only [i64_w, i32_w]; rw [c33b0]) | skip)
          replace H := Option.bind_eq_some_iff.mp H
          obtain ⟨t274, A340, H⟩ := H
          replace H : (if t274 = true then (if t258 = t262 then (if t265 = t267 then (if (t266 == t268) = true then (if t269 = t271 then (if (t270 == t272) = true then ((pin_Raise.f k a3 a4 a5 l0).bind fun t275 => ((sextonref17_Raise.f k a3 a4 a5 t246).bind fun t276 => (sextonlaw17_PinDoes.j0 k l0 t246 t249 t257 (t275 == t276)))) else (sextonlaw17_PinDoes.j0 k l0 t246 t249 t257 false)) else (sextonlaw17_PinDoes.j0 k l0 t246 t249 t257 false)) else (sextonlaw17_PinDoes.j0 k l0 t246 t249 t257 false)) else (sextonlaw17_PinDoes.j0 k l0 t246 t249 t257 false)) else (sextonlaw17_PinDoes.j0 k l0 t246 t249 t257 false)) else (sextonlaw17_PinDoes.j0 k l0 t246 t249 t257 false)) = some r := H
          have A34 := Aside0.mk A340
          clear A340
          by_cases c35 : t274 = true
          · subst c35
            have H1 : (if t258 = t262 then (if t265 = t267 then (if (t266 == t268) = true then (if t269 = t271 then (if (t270 == t272) = true then ((pin_Raise.f k a3 a4 a5 l0).bind fun t275 => ((sextonref17_Raise.f k a3 a4 a5 t246).bind fun t276 => (sextonlaw17_PinDoes.j0 k l0 t246 t249 t257 (t275 == t276)))) else (sextonlaw17_PinDoes.j0 k l0 t246 t249 t257 false)) else (sextonlaw17_PinDoes.j0 k l0 t246 t249 t257 false)) else (sextonlaw17_PinDoes.j0 k l0 t246 t249 t257 false)) else (sextonlaw17_PinDoes.j0 k l0 t246 t249 t257 false)) else (sextonlaw17_PinDoes.j0 k l0 t246 t249 t257 false)) = some r := by rw [if_pos rfl] at H; exact H
            clear H
            have H := H1
            clear H1
            by_cases c36 : t258 = t262
            · rw [if_pos c36] at H
              have c36b0 : (t258 == t262) = true := beq_iff_eq.mpr c36
              have c36b1 : (t258 != t262) = false := bne_eq_false_iff_eq.mpr c36
              clear c36
              by_cases c37 : t265 = t267
              · rw [if_pos c37] at H
                have c37b0 : (t265 == t267) = true := beq_iff_eq.mpr c37
                have c37b1 : (t265 != t267) = false := bne_eq_false_iff_eq.mpr c37
                clear c37
                by_cases c38 : (t266 == t268) = true
                · rw [if_pos c38] at H
                  have c38b0 : (t266 == t268) = true := c38
                  (try (have c38b1 : decide (t266 = t268) = true := by simpa using c38))
                  (try (have c38b2 : (t266 == t268) = true := by simpa using c38))
                  clear c38
                  by_cases c39 : t269 = t271
                  · rw [if_pos c39] at H
                    have c39b0 : (t269 == t271) = true := beq_iff_eq.mpr c39
                    have c39b1 : (t269 != t271) = false := bne_eq_false_iff_eq.mpr c39
                    clear c39
                    by_cases c40 : (t270 == t272) = true
                    · rw [if_pos c40] at H
                      have c40b0 : (t270 == t272) = true := c40
                      (try (have c40b1 : decide (t270 = t272) = true := by simpa using c40))
                      (try (have c40b2 : (t270 == t272) = true := by simpa using c40))
                      clear c40
                      replace H := Option.bind_eq_some_iff.mp H
                      obtain ⟨t275, A410, H⟩ := H
                      replace H : ((sextonref17_Raise.f k a3 a4 a5 t246).bind fun t276 => (sextonlaw17_PinDoes.j0 k l0 t246 t249 t257 (t275 == t276))) = some r := H
                      have A41 := Aside0.mk A410
                      clear A410
                      replace H := Option.bind_eq_some_iff.mp H
                      obtain ⟨t276, A420, H⟩ := H
                      replace H : (sextonlaw17_PinDoes.j0 k l0 t246 t249 t257 (t275 == t276)) = some r := H
                      have A42 := Aside0.mk A420
                      clear A420
                      have H' := Aside0.mk H
                      clear H
                      obtain ⟨Ao43, co43, eo43⟩ := Kd.R_slice HO251.out
                      subst eo43
                      obtain ⟨Ao44, co44, eo44⟩ := Kd.R_slice HO255.out
                      subst eo44
                      go_wp2_with (first | ((with_reducible refine gate_callee (f := 17) rfl ?_); refine goesL_ (some 86) rfl rfl Try.func17 (by kernel_rfl) rfl #[.slice Ao43 t249.length co43, .slice Ao44 t253.length co44] rfl (by (try simp only [List.map_toArray, List.map_cons, List.map_nil]); first | done | rfl | (simp only [List.length_drop, List.length_take]; rfl)) ?_; (with_reducible refine (sextonref17_Same.calls k _ _ t249 _ _ t253 true _ ?side1 ?side2 ?side3 ?side4 A31.out).mono ?_); (case side1 => repeat (first | exact (Kd.R_reads' HO251.out).2.2 | (with_reducible refine Kd.C_alloc ?_ _) | (with_reducible refine Kd.C_drewN ?_ _) | (with_reducible refine Kd.C_drew ?_))); (case side2 => exact (Kd.R_reads' HO251.out).2.1); (case side3 => repeat (first | exact (Kd.R_reads' HO255.out).2.2 | (with_reducible refine Kd.C_alloc ?_ _) | (with_reducible refine Kd.C_drewN ?_ _) | (with_reducible refine Kd.C_drew ?_))); (case side4 => exact (Kd.R_reads' HO255.out).2.1); rintro e w' ⟨rfl, ⟨nd, rfl⟩⟩; refine ⟨_, rfl, ?_⟩; obtain ⟨Ao45, co45, eo45⟩ := Kd.R_slice HO260.out; subst eo45; obtain ⟨Ao46, co46, eo46⟩ := Kd.R_slice HO264.out; subst eo46) | (go_at_call 17; (with_reducible refine (sextonref17_Same.calls k _ _ t257 _ _ t261 true _ ?side1 ?side2 ?side3 ?side4 A34.out).mono ?_); (case side1 => repeat (first | exact (Kd.R_reads' HO260.out).2.2 | (with_reducible refine Kd.C_alloc ?_ _) | (with_reducible refine Kd.C_drewN ?_ _) | (with_reducible refine Kd.C_drew ?_))); (case side2 => exact (Kd.R_reads' HO260.out).2.1); (case side3 => repeat (first | exact (Kd.R_reads' HO264.out).2.2 | (with_reducible refine Kd.C_alloc ?_ _) | (with_reducible refine Kd.C_drewN ?_ _) | (with_reducible refine Kd.C_drew ?_))); (case side4 => exact (Kd.R_reads' HO264.out).2.1); rintro e w' ⟨rfl, ⟨nd, rfl⟩⟩) | (go_at_call 18; (with_reducible refine (pin_Raise.calls k a3 a4 a5 _ _ l0 t275 _ ?side1 ?side2 A41.out).mono ?_); (case side1 => repeat (first | exact (Kd.C_below HR0.out (by repeat (first | (with_reducible first | exact HB.out | apply below_alloc | apply pw_below_drewN | apply below_drew1 | refine below_set ?_ GE245.out) | exact HB.out))) | (with_reducible refine Kd.C_alloc ?_ _) | (with_reducible refine Kd.C_drewN ?_ _) | (with_reducible refine Kd.C_drew ?_))); (case side2 => exact HC0.out); rintro e w47 ⟨rfl, hb⟩; have n0_ := Aside0.mk (Kd.R_below (by (with_reducible repeat (first | apply Kd.R_alloc | apply Kd.R_drewN | apply Kd.R_drew)); exact HO248.out) hb); have n1_ := Aside0.mk (Kd.R_below (by (with_reducible repeat (first | apply Kd.R_alloc | apply Kd.R_drewN | apply Kd.R_drew)); exact HO251.out) hb); have n2_ := Aside0.mk (Kd.R_below (by (with_reducible repeat (first | apply Kd.R_alloc | apply Kd.R_drewN | apply Kd.R_drew)); exact HO255.out) hb); have n3_ := Aside0.mk (Kd.R_below (by (with_reducible repeat (first | apply Kd.R_alloc | apply Kd.R_drewN | apply Kd.R_drew)); exact HO260.out) hb); have n4_ := Aside0.mk (Kd.R_below (by (with_reducible repeat (first | apply Kd.R_alloc | apply Kd.R_drewN | apply Kd.R_drew)); exact HO264.out) hb); have n5_ := Aside0.mk (blk_below (g := gb245) (o := .cells #[.int .i64 a1_0, .int .i64 a1_1] 24 (0, 0)) (by (with_reducible repeat (first | refine blk_drewN ?_ _ | refine blk_drew ?_ | refine blk_alloc ?_ _)); exact BK245.out) hb); have n6_ := Aside0.mk (below_step (by repeat (first | (with_reducible first | exact HB.out | apply below_alloc | apply pw_below_drewN | apply below_drew1 | refine below_set ?_ GE245.out) | exact HB.out)) hb); clear HO248; clear HO251; clear HO255; clear HO260; clear HO264; clear BK245; clear HB; have HO248 := n0_; have HO251 := n1_; have HO255 := n2_; have HO260 := n3_; have HO264 := n4_; have BK245 := n5_; have HB := n6_; clear n0_ n1_ n2_ n3_ n4_ n5_ n6_; (try clear hb); (try clear hb2); (try clear hk); (try clear hi)) | (go_at_call 19; (with_reducible refine (sextonref17_Raise.calls k a3 a4 a5 _ _ t246 t276 _ ?side1 ?side2 A42.out).mono ?_); (case side1 => repeat (first | exact (Kd.R_reads' HO248.out).2.2 | (with_reducible refine Kd.C_alloc ?_ _) | (with_reducible refine Kd.C_drewN ?_ _) | (with_reducible refine Kd.C_drew ?_))); (case side2 => exact (Kd.R_reads' HO248.out).2.1); rintro e w48 ⟨rfl, hb⟩; have n0_ := Aside0.mk (Kd.R_below (by (with_reducible repeat (first | apply Kd.R_alloc | apply Kd.R_drewN | apply Kd.R_drew)); exact HO248.out) hb); have n1_ := Aside0.mk (Kd.R_below (by (with_reducible repeat (first | apply Kd.R_alloc | apply Kd.R_drewN | apply Kd.R_drew)); exact HO251.out) hb); have n2_ := Aside0.mk (Kd.R_below (by (with_reducible repeat (first | apply Kd.R_alloc | apply Kd.R_drewN | apply Kd.R_drew)); exact HO255.out) hb); have n3_ := Aside0.mk (Kd.R_below (by (with_reducible repeat (first | apply Kd.R_alloc | apply Kd.R_drewN | apply Kd.R_drew)); exact HO260.out) hb); have n4_ := Aside0.mk (Kd.R_below (by (with_reducible repeat (first | apply Kd.R_alloc | apply Kd.R_drewN | apply Kd.R_drew)); exact HO264.out) hb); have n5_ := Aside0.mk (blk_below (g := gb245) (o := .cells #[.int .i64 a1_0, .int .i64 a1_1] 24 (0, 0)) (by (with_reducible repeat (first | refine blk_drewN ?_ _ | refine blk_drew ?_ | refine blk_alloc ?_ _)); exact BK245.out) hb); have n6_ := Aside0.mk (below_step (by repeat (first | (with_reducible first | exact HB.out | apply below_alloc | apply pw_below_drewN | apply below_drew1 | refine below_set ?_ GE245.out) | exact HB.out)) hb); clear HO248; clear HO251; clear HO255; clear HO260; clear HO264; clear BK245; clear HB; have HO248 := n0_; have HO251 := n1_; have HO255 := n2_; have HO260 := n3_; have HO264 := n4_; have BK245 := n5_; have HB := n6_; clear n0_ n1_ n2_ n3_ n4_ n5_ n6_; (try clear hb); (try clear hb2); (try clear hk); (try clear hi)))
                      go_meet
                      case rel => exact ⟨_, ((t275 == t276)), (by first | rfl | (simp; done) | (simp [*]; done)), H', ⟨by first | omega | exact Nat.le_refl _⟩, ⟨by (with_reducible repeat (first | apply Kd.R_alloc | apply Kd.R_drewN | apply Kd.R_drew)); exact Kd.R_mono HO248.out (fun _ hk => ⟨hk.1.1.1.2, ⟨hk.1.2, hk.1.1.1.1.2⟩⟩)⟩, ⟨by (with_reducible repeat (first | apply Kd.R_alloc | apply Kd.R_drewN | apply Kd.R_drew)); exact Kd.R_mono HO251.out (fun _ hk => ⟨hk.1.1.1.1.2, ⟨hk.1.2, hk.1.1.1.2⟩⟩)⟩, ⟨by (with_reducible repeat (first | apply Kd.R_alloc | apply Kd.R_drewN | apply Kd.R_drew)); exact Kd.R_mono HO260.out (fun _ hk => ⟨hk.1.1.1.1.2, ⟨hk.1.1.1.2, hk.1.2⟩⟩)⟩, ⟨by (with_reducible repeat (first | refine blk_drewN ?_ _ | refine blk_drew ?_ | refine blk_alloc ?_ _)); exact BK245.out⟩, ⟨by repeat (first | (with_reducible first | exact HB.out | apply below_alloc | apply pw_below_drewN | apply below_drew1 | refine below_set ?_ GE245.out) | exact HB.out)⟩⟩
                    · rw [if_neg c40] at H
                      have c40b0 : (t270 == t272) = false := by simpa using c40
                      (try (have c40b1 : decide (t270 = t272) = false := by simpa using c40))
                      (try (have c40b2 : (t270 == t272) = false := by simpa using c40))
                      (try (have c40b3 : ¬ (t270 = t272) := by simpa using c40))
                      clear c40
                      have H' := Aside0.mk H
                      clear H
                      obtain ⟨Ao49, co49, eo49⟩ := Kd.R_slice HO251.out
                      subst eo49
                      obtain ⟨Ao50, co50, eo50⟩ := Kd.R_slice HO255.out
                      subst eo50
                      go_wp2_with (first | ((with_reducible refine gate_callee (f := 17) rfl ?_); refine goesL_ (some 86) rfl rfl Try.func17 (by kernel_rfl) rfl #[.slice Ao49 t249.length co49, .slice Ao50 t253.length co50] rfl (by (try simp only [List.map_toArray, List.map_cons, List.map_nil]); first | done | rfl | (simp only [List.length_drop, List.length_take]; rfl)) ?_; (with_reducible refine (sextonref17_Same.calls k _ _ t249 _ _ t253 true _ ?side1 ?side2 ?side3 ?side4 A31.out).mono ?_); (case side1 => repeat (first | exact (Kd.R_reads' HO251.out).2.2 | (with_reducible refine Kd.C_alloc ?_ _) | (with_reducible refine Kd.C_drewN ?_ _) | (with_reducible refine Kd.C_drew ?_))); (case side2 => exact (Kd.R_reads' HO251.out).2.1); (case side3 => repeat (first | exact (Kd.R_reads' HO255.out).2.2 | (with_reducible refine Kd.C_alloc ?_ _) | (with_reducible refine Kd.C_drewN ?_ _) | (with_reducible refine Kd.C_drew ?_))); (case side4 => exact (Kd.R_reads' HO255.out).2.1); rintro e w' ⟨rfl, ⟨nd, rfl⟩⟩; refine ⟨_, rfl, ?_⟩; obtain ⟨Ao51, co51, eo51⟩ := Kd.R_slice HO260.out; subst eo51; obtain ⟨Ao52, co52, eo52⟩ := Kd.R_slice HO264.out; subst eo52) | (go_at_call 17; (with_reducible refine (sextonref17_Same.calls k _ _ t257 _ _ t261 true _ ?side1 ?side2 ?side3 ?side4 A34.out).mono ?_); (case side1 => repeat (first | exact (Kd.R_reads' HO260.out).2.2 | (with_reducible refine Kd.C_alloc ?_ _) | (with_reducible refine Kd.C_drewN ?_ _) | (with_reducible refine Kd.C_drew ?_))); (case side2 => exact (Kd.R_reads' HO260.out).2.1); (case side3 => repeat (first | exact (Kd.R_reads' HO264.out).2.2 | (with_reducible refine Kd.C_alloc ?_ _) | (with_reducible refine Kd.C_drewN ?_ _) | (with_reducible refine Kd.C_drew ?_))); (case side4 => exact (Kd.R_reads' HO264.out).2.1); rintro e w' ⟨rfl, ⟨nd, rfl⟩⟩))
                      go_meet
                      case rel => exact ⟨_, (false), (by first | rfl | (simp; done) | (simp [*]; done)), H', ⟨by first | omega | exact Nat.le_refl _⟩, ⟨by (with_reducible repeat (first | apply Kd.R_alloc | apply Kd.R_drewN | apply Kd.R_drew)); exact Kd.R_mono HO248.out (fun _ hk => ⟨hk.1.1.1.2, ⟨hk.1.2, hk.1.1.1.1.2⟩⟩)⟩, ⟨by (with_reducible repeat (first | apply Kd.R_alloc | apply Kd.R_drewN | apply Kd.R_drew)); exact Kd.R_mono HO251.out (fun _ hk => ⟨hk.1.1.1.1.2, ⟨hk.1.2, hk.1.1.1.2⟩⟩)⟩, ⟨by (with_reducible repeat (first | apply Kd.R_alloc | apply Kd.R_drewN | apply Kd.R_drew)); exact Kd.R_mono HO260.out (fun _ hk => ⟨hk.1.1.1.1.2, ⟨hk.1.1.1.2, hk.1.2⟩⟩)⟩, ⟨by (with_reducible repeat (first | refine blk_drewN ?_ _ | refine blk_drew ?_ | refine blk_alloc ?_ _)); exact BK245.out⟩, ⟨by repeat (first | (with_reducible first | exact HB.out | apply below_alloc | apply pw_below_drewN | apply below_drew1 | refine below_set ?_ GE245.out) | exact HB.out)⟩⟩
                  · rw [if_neg c39] at H
                    have c39b0 : (t269 == t271) = false := beq_eq_false_iff_ne.mpr c39
                    have c39b1 : (t269 != t271) = true := bne_iff_ne.mpr c39
                    have H' := Aside0.mk H
                    clear H
                    obtain ⟨Ao53, co53, eo53⟩ := Kd.R_slice HO251.out
                    subst eo53
                    obtain ⟨Ao54, co54, eo54⟩ := Kd.R_slice HO255.out
                    subst eo54
                    go_wp2_with (first | ((with_reducible refine gate_callee (f := 17) rfl ?_); refine goesL_ (some 86) rfl rfl Try.func17 (by kernel_rfl) rfl #[.slice Ao53 t249.length co53, .slice Ao54 t253.length co54] rfl (by (try simp only [List.map_toArray, List.map_cons, List.map_nil]); first | done | rfl | (simp only [List.length_drop, List.length_take]; rfl)) ?_; (with_reducible refine (sextonref17_Same.calls k _ _ t249 _ _ t253 true _ ?side1 ?side2 ?side3 ?side4 A31.out).mono ?_); (case side1 => repeat (first | exact (Kd.R_reads' HO251.out).2.2 | (with_reducible refine Kd.C_alloc ?_ _) | (with_reducible refine Kd.C_drewN ?_ _) | (with_reducible refine Kd.C_drew ?_))); (case side2 => exact (Kd.R_reads' HO251.out).2.1); (case side3 => repeat (first | exact (Kd.R_reads' HO255.out).2.2 | (with_reducible refine Kd.C_alloc ?_ _) | (with_reducible refine Kd.C_drewN ?_ _) | (with_reducible refine Kd.C_drew ?_))); (case side4 => exact (Kd.R_reads' HO255.out).2.1); rintro e w' ⟨rfl, ⟨nd, rfl⟩⟩; refine ⟨_, rfl, ?_⟩; obtain ⟨Ao55, co55, eo55⟩ := Kd.R_slice HO260.out; subst eo55; obtain ⟨Ao56, co56, eo56⟩ := Kd.R_slice HO264.out; subst eo56) | (go_at_call 17; (with_reducible refine (sextonref17_Same.calls k _ _ t257 _ _ t261 true _ ?side1 ?side2 ?side3 ?side4 A34.out).mono ?_); (case side1 => repeat (first | exact (Kd.R_reads' HO260.out).2.2 | (with_reducible refine Kd.C_alloc ?_ _) | (with_reducible refine Kd.C_drewN ?_ _) | (with_reducible refine Kd.C_drew ?_))); (case side2 => exact (Kd.R_reads' HO260.out).2.1); (case side3 => repeat (first | exact (Kd.R_reads' HO264.out).2.2 | (with_reducible refine Kd.C_alloc ?_ _) | (with_reducible refine Kd.C_drewN ?_ _) | (with_reducible refine Kd.C_drew ?_))); (case side4 => exact (Kd.R_reads' HO264.out).2.1); rintro e w' ⟨rfl, ⟨nd, rfl⟩⟩))
                    go_meet
                    case rel => exact ⟨_, (false), (by first | rfl | (simp; done) | (simp [*]; done)), H', ⟨by first | omega | exact Nat.le_refl _⟩, ⟨by (with_reducible repeat (first | apply Kd.R_alloc | apply Kd.R_drewN | apply Kd.R_drew)); exact Kd.R_mono HO248.out (fun _ hk => ⟨hk.1.1.1.2, ⟨hk.1.2, hk.1.1.1.1.2⟩⟩)⟩, ⟨by (with_reducible repeat (first | apply Kd.R_alloc | apply Kd.R_drewN | apply Kd.R_drew)); exact Kd.R_mono HO251.out (fun _ hk => ⟨hk.1.1.1.1.2, ⟨hk.1.2, hk.1.1.1.2⟩⟩)⟩, ⟨by (with_reducible repeat (first | apply Kd.R_alloc | apply Kd.R_drewN | apply Kd.R_drew)); exact Kd.R_mono HO260.out (fun _ hk => ⟨hk.1.1.1.1.2, ⟨hk.1.1.1.2, hk.1.2⟩⟩)⟩, ⟨by (with_reducible repeat (first | refine blk_drewN ?_ _ | refine blk_drew ?_ | refine blk_alloc ?_ _)); exact BK245.out⟩, ⟨by repeat (first | (with_reducible first | exact HB.out | apply below_alloc | apply pw_below_drewN | apply below_drew1 | refine below_set ?_ GE245.out) | exact HB.out)⟩⟩
                · rw [if_neg c38] at H
                  have c38b0 : (t266 == t268) = false := by simpa using c38
                  (try (have c38b1 : decide (t266 = t268) = false := by simpa using c38))
                  (try (have c38b2 : (t266 == t268) = false := by simpa using c38))
                  (try (have c38b3 : ¬ (t266 = t268) := by simpa using c38))
                  clear c38
                  have H' := Aside0.mk H
                  clear H
                  obtain ⟨Ao57, co57, eo57⟩ := Kd.R_slice HO251.out
                  subst eo57
                  obtain ⟨Ao58, co58, eo58⟩ := Kd.R_slice HO255.out
                  subst eo58
                  go_wp2_with (first | ((with_reducible refine gate_callee (f := 17) rfl ?_); refine goesL_ (some 86) rfl rfl Try.func17 (by kernel_rfl) rfl #[.slice Ao57 t249.length co57, .slice Ao58 t253.length co58] rfl (by (try simp only [List.map_toArray, List.map_cons, List.map_nil]); first | done | rfl | (simp only [List.length_drop, List.length_take]; rfl)) ?_; (with_reducible refine (sextonref17_Same.calls k _ _ t249 _ _ t253 true _ ?side1 ?side2 ?side3 ?side4 A31.out).mono ?_); (case side1 => repeat (first | exact (Kd.R_reads' HO251.out).2.2 | (with_reducible refine Kd.C_alloc ?_ _) | (with_reducible refine Kd.C_drewN ?_ _) | (with_reducible refine Kd.C_drew ?_))); (case side2 => exact (Kd.R_reads' HO251.out).2.1); (case side3 => repeat (first | exact (Kd.R_reads' HO255.out).2.2 | (with_reducible refine Kd.C_alloc ?_ _) | (with_reducible refine Kd.C_drewN ?_ _) | (with_reducible refine Kd.C_drew ?_))); (case side4 => exact (Kd.R_reads' HO255.out).2.1); rintro e w' ⟨rfl, ⟨nd, rfl⟩⟩; refine ⟨_, rfl, ?_⟩; obtain ⟨Ao59, co59, eo59⟩ := Kd.R_slice HO260.out; subst eo59; obtain ⟨Ao60, co60, eo60⟩ := Kd.R_slice HO264.out; subst eo60) | (go_at_call 17; (with_reducible refine (sextonref17_Same.calls k _ _ t257 _ _ t261 true _ ?side1 ?side2 ?side3 ?side4 A34.out).mono ?_); (case side1 => repeat (first | exact (Kd.R_reads' HO260.out).2.2 | (with_reducible refine Kd.C_alloc ?_ _) | (with_reducible refine Kd.C_drewN ?_ _) | (with_reducible refine Kd.C_drew ?_))); (case side2 => exact (Kd.R_reads' HO260.out).2.1); (case side3 => repeat (first | exact (Kd.R_reads' HO264.out).2.2 | (with_reducible refine Kd.C_alloc ?_ _) | (with_reducible refine Kd.C_drewN ?_ _) | (with_reducible refine Kd.C_drew ?_))); (case side4 => exact (Kd.R_reads' HO264.out).2.1); rintro e w' ⟨rfl, ⟨nd, rfl⟩⟩))
                  go_meet
                  case rel => exact ⟨_, (false), (by first | rfl | (simp; done) | (simp [*]; done)), H', ⟨by first | omega | exact Nat.le_refl _⟩, ⟨by (with_reducible repeat (first | apply Kd.R_alloc | apply Kd.R_drewN | apply Kd.R_drew)); exact Kd.R_mono HO248.out (fun _ hk => ⟨hk.1.1.1.2, ⟨hk.1.2, hk.1.1.1.1.2⟩⟩)⟩, ⟨by (with_reducible repeat (first | apply Kd.R_alloc | apply Kd.R_drewN | apply Kd.R_drew)); exact Kd.R_mono HO251.out (fun _ hk => ⟨hk.1.1.1.1.2, ⟨hk.1.2, hk.1.1.1.2⟩⟩)⟩, ⟨by (with_reducible repeat (first | apply Kd.R_alloc | apply Kd.R_drewN | apply Kd.R_drew)); exact Kd.R_mono HO260.out (fun _ hk => ⟨hk.1.1.1.1.2, ⟨hk.1.1.1.2, hk.1.2⟩⟩)⟩, ⟨by (with_reducible repeat (first | refine blk_drewN ?_ _ | refine blk_drew ?_ | refine blk_alloc ?_ _)); exact BK245.out⟩, ⟨by repeat (first | (with_reducible first | exact HB.out | apply below_alloc | apply pw_below_drewN | apply below_drew1 | refine below_set ?_ GE245.out) | exact HB.out)⟩⟩
              · rw [if_neg c37] at H
                have c37b0 : (t265 == t267) = false := beq_eq_false_iff_ne.mpr c37
                have c37b1 : (t265 != t267) = true := bne_iff_ne.mpr c37
                have H' := Aside0.mk H
                clear H
                obtain ⟨Ao61, co61, eo61⟩ := Kd.R_slice HO251.out
                subst eo61
                obtain ⟨Ao62, co62, eo62⟩ := Kd.R_slice HO255.out
                subst eo62
                go_wp2_with (first | ((with_reducible refine gate_callee (f := 17) rfl ?_); refine goesL_ (some 86) rfl rfl Try.func17 (by kernel_rfl) rfl #[.slice Ao61 t249.length co61, .slice Ao62 t253.length co62] rfl (by (try simp only [List.map_toArray, List.map_cons, List.map_nil]); first | done | rfl | (simp only [List.length_drop, List.length_take]; rfl)) ?_; (with_reducible refine (sextonref17_Same.calls k _ _ t249 _ _ t253 true _ ?side1 ?side2 ?side3 ?side4 A31.out).mono ?_); (case side1 => repeat (first | exact (Kd.R_reads' HO251.out).2.2 | (with_reducible refine Kd.C_alloc ?_ _) | (with_reducible refine Kd.C_drewN ?_ _) | (with_reducible refine Kd.C_drew ?_))); (case side2 => exact (Kd.R_reads' HO251.out).2.1); (case side3 => repeat (first | exact (Kd.R_reads' HO255.out).2.2 | (with_reducible refine Kd.C_alloc ?_ _) | (with_reducible refine Kd.C_drewN ?_ _) | (with_reducible refine Kd.C_drew ?_))); (case side4 => exact (Kd.R_reads' HO255.out).2.1); rintro e w' ⟨rfl, ⟨nd, rfl⟩⟩; refine ⟨_, rfl, ?_⟩; obtain ⟨Ao63, co63, eo63⟩ := Kd.R_slice HO260.out; subst eo63; obtain ⟨Ao64, co64, eo64⟩ := Kd.R_slice HO264.out; subst eo64) | (go_at_call 17; (with_reducible refine (sextonref17_Same.calls k _ _ t257 _ _ t261 true _ ?side1 ?side2 ?side3 ?side4 A34.out).mono ?_); (case side1 => repeat (first | exact (Kd.R_reads' HO260.out).2.2 | (with_reducible refine Kd.C_alloc ?_ _) | (with_reducible refine Kd.C_drewN ?_ _) | (with_reducible refine Kd.C_drew ?_))); (case side2 => exact (Kd.R_reads' HO260.out).2.1); (case side3 => repeat (first | exact (Kd.R_reads' HO264.out).2.2 | (with_reducible refine Kd.C_alloc ?_ _) | (with_reducible refine Kd.C_drewN ?_ _) | (with_reducible refine Kd.C_drew ?_))); (case side4 => exact (Kd.R_reads' HO264.out).2.1); rintro e w' ⟨rfl, ⟨nd, rfl⟩⟩))
                go_meet
                case rel => exact ⟨_, (false), (by first | rfl | (simp; done) | (simp [*]; done)), H', ⟨by first | omega | exact Nat.le_refl _⟩, ⟨by (with_reducible repeat (first | apply Kd.R_alloc | apply Kd.R_drewN | apply Kd.R_drew)); exact Kd.R_mono HO248.out (fun _ hk => ⟨hk.1.1.1.2, ⟨hk.1.2, hk.1.1.1.1.2⟩⟩)⟩, ⟨by (with_reducible repeat (first | apply Kd.R_alloc | apply Kd.R_drewN | apply Kd.R_drew)); exact Kd.R_mono HO251.out (fun _ hk => ⟨hk.1.1.1.1.2, ⟨hk.1.2, hk.1.1.1.2⟩⟩)⟩, ⟨by (with_reducible repeat (first | apply Kd.R_alloc | apply Kd.R_drewN | apply Kd.R_drew)); exact Kd.R_mono HO260.out (fun _ hk => ⟨hk.1.1.1.1.2, ⟨hk.1.1.1.2, hk.1.2⟩⟩)⟩, ⟨by (with_reducible repeat (first | refine blk_drewN ?_ _ | refine blk_drew ?_ | refine blk_alloc ?_ _)); exact BK245.out⟩, ⟨by repeat (first | (with_reducible first | exact HB.out | apply below_alloc | apply pw_below_drewN | apply below_drew1 | refine below_set ?_ GE245.out) | exact HB.out)⟩⟩
            · rw [if_neg c36] at H
              have c36b0 : (t258 == t262) = false := beq_eq_false_iff_ne.mpr c36
              have c36b1 : (t258 != t262) = true := bne_iff_ne.mpr c36
              have H' := Aside0.mk H
              clear H
              obtain ⟨Ao65, co65, eo65⟩ := Kd.R_slice HO251.out
              subst eo65
              obtain ⟨Ao66, co66, eo66⟩ := Kd.R_slice HO255.out
              subst eo66
              go_wp2_with (first | ((with_reducible refine gate_callee (f := 17) rfl ?_); refine goesL_ (some 86) rfl rfl Try.func17 (by kernel_rfl) rfl #[.slice Ao65 t249.length co65, .slice Ao66 t253.length co66] rfl (by (try simp only [List.map_toArray, List.map_cons, List.map_nil]); first | done | rfl | (simp only [List.length_drop, List.length_take]; rfl)) ?_; (with_reducible refine (sextonref17_Same.calls k _ _ t249 _ _ t253 true _ ?side1 ?side2 ?side3 ?side4 A31.out).mono ?_); (case side1 => repeat (first | exact (Kd.R_reads' HO251.out).2.2 | (with_reducible refine Kd.C_alloc ?_ _) | (with_reducible refine Kd.C_drewN ?_ _) | (with_reducible refine Kd.C_drew ?_))); (case side2 => exact (Kd.R_reads' HO251.out).2.1); (case side3 => repeat (first | exact (Kd.R_reads' HO255.out).2.2 | (with_reducible refine Kd.C_alloc ?_ _) | (with_reducible refine Kd.C_drewN ?_ _) | (with_reducible refine Kd.C_drew ?_))); (case side4 => exact (Kd.R_reads' HO255.out).2.1); rintro e w' ⟨rfl, ⟨nd, rfl⟩⟩; refine ⟨_, rfl, ?_⟩; obtain ⟨Ao67, co67, eo67⟩ := Kd.R_slice HO260.out; subst eo67; obtain ⟨Ao68, co68, eo68⟩ := Kd.R_slice HO264.out; subst eo68) | (go_at_call 17; (with_reducible refine (sextonref17_Same.calls k _ _ t257 _ _ t261 true _ ?side1 ?side2 ?side3 ?side4 A34.out).mono ?_); (case side1 => repeat (first | exact (Kd.R_reads' HO260.out).2.2 | (with_reducible refine Kd.C_alloc ?_ _) | (with_reducible refine Kd.C_drewN ?_ _) | (with_reducible refine Kd.C_drew ?_))); (case side2 => exact (Kd.R_reads' HO260.out).2.1); (case side3 => repeat (first | exact (Kd.R_reads' HO264.out).2.2 | (with_reducible refine Kd.C_alloc ?_ _) | (with_reducible refine Kd.C_drewN ?_ _) | (with_reducible refine Kd.C_drew ?_))); (case side4 => exact (Kd.R_reads' HO264.out).2.1); rintro e w' ⟨rfl, ⟨nd, rfl⟩⟩))
              go_meet
              case rel => exact ⟨_, (false), (by first | rfl | (simp; done) | (simp [*]; done)), H', ⟨by first | omega | exact Nat.le_refl _⟩, ⟨by (with_reducible repeat (first | apply Kd.R_alloc | apply Kd.R_drewN | apply Kd.R_drew)); exact Kd.R_mono HO248.out (fun _ hk => ⟨hk.1.1.1.2, ⟨hk.1.2, hk.1.1.1.1.2⟩⟩)⟩, ⟨by (with_reducible repeat (first | apply Kd.R_alloc | apply Kd.R_drewN | apply Kd.R_drew)); exact Kd.R_mono HO251.out (fun _ hk => ⟨hk.1.1.1.1.2, ⟨hk.1.2, hk.1.1.1.2⟩⟩)⟩, ⟨by (with_reducible repeat (first | apply Kd.R_alloc | apply Kd.R_drewN | apply Kd.R_drew)); exact Kd.R_mono HO260.out (fun _ hk => ⟨hk.1.1.1.1.2, ⟨hk.1.1.1.2, hk.1.2⟩⟩)⟩, ⟨by (with_reducible repeat (first | refine blk_drewN ?_ _ | refine blk_drew ?_ | refine blk_alloc ?_ _)); exact BK245.out⟩, ⟨by repeat (first | (with_reducible first | exact HB.out | apply below_alloc | apply pw_below_drewN | apply below_drew1 | refine below_set ?_ GE245.out) | exact HB.out)⟩⟩
          · replace c35 := Bool.eq_false_iff.mpr c35
            subst c35
            have H1 : (sextonlaw17_PinDoes.j0 k l0 t246 t249 t257 false) = some r := by rw [if_neg (show ¬ (false = true) by decide)] at H; exact H
            clear H
            have H := H1
            clear H1
            have H' := Aside0.mk H
            clear H
            obtain ⟨Ao69, co69, eo69⟩ := Kd.R_slice HO251.out
            subst eo69
            obtain ⟨Ao70, co70, eo70⟩ := Kd.R_slice HO255.out
            subst eo70
            go_wp2_with (first | ((with_reducible refine gate_callee (f := 17) rfl ?_); refine goesL_ (some 86) rfl rfl Try.func17 (by kernel_rfl) rfl #[.slice Ao69 t249.length co69, .slice Ao70 t253.length co70] rfl (by (try simp only [List.map_toArray, List.map_cons, List.map_nil]); first | done | rfl | (simp only [List.length_drop, List.length_take]; rfl)) ?_; (with_reducible refine (sextonref17_Same.calls k _ _ t249 _ _ t253 true _ ?side1 ?side2 ?side3 ?side4 A31.out).mono ?_); (case side1 => repeat (first | exact (Kd.R_reads' HO251.out).2.2 | (with_reducible refine Kd.C_alloc ?_ _) | (with_reducible refine Kd.C_drewN ?_ _) | (with_reducible refine Kd.C_drew ?_))); (case side2 => exact (Kd.R_reads' HO251.out).2.1); (case side3 => repeat (first | exact (Kd.R_reads' HO255.out).2.2 | (with_reducible refine Kd.C_alloc ?_ _) | (with_reducible refine Kd.C_drewN ?_ _) | (with_reducible refine Kd.C_drew ?_))); (case side4 => exact (Kd.R_reads' HO255.out).2.1); rintro e w' ⟨rfl, ⟨nd, rfl⟩⟩; refine ⟨_, rfl, ?_⟩; obtain ⟨Ao71, co71, eo71⟩ := Kd.R_slice HO260.out; subst eo71; obtain ⟨Ao72, co72, eo72⟩ := Kd.R_slice HO264.out; subst eo72) | (go_at_call 17; (with_reducible refine (sextonref17_Same.calls k _ _ t257 _ _ t261 false _ ?side1 ?side2 ?side3 ?side4 A34.out).mono ?_); (case side1 => repeat (first | exact (Kd.R_reads' HO260.out).2.2 | (with_reducible refine Kd.C_alloc ?_ _) | (with_reducible refine Kd.C_drewN ?_ _) | (with_reducible refine Kd.C_drew ?_))); (case side2 => exact (Kd.R_reads' HO260.out).2.1); (case side3 => repeat (first | exact (Kd.R_reads' HO264.out).2.2 | (with_reducible refine Kd.C_alloc ?_ _) | (with_reducible refine Kd.C_drewN ?_ _) | (with_reducible refine Kd.C_drew ?_))); (case side4 => exact (Kd.R_reads' HO264.out).2.1); rintro e w' ⟨rfl, ⟨nd, rfl⟩⟩))
            go_meet
            case rel => exact ⟨_, (false), (by first | rfl | (simp; done) | (simp [*]; done)), H', ⟨by first | omega | exact Nat.le_refl _⟩, ⟨by (with_reducible repeat (first | apply Kd.R_alloc | apply Kd.R_drewN | apply Kd.R_drew)); exact Kd.R_mono HO248.out (fun _ hk => ⟨hk.1.1.1.2, ⟨hk.1.2, hk.1.1.1.1.2⟩⟩)⟩, ⟨by (with_reducible repeat (first | apply Kd.R_alloc | apply Kd.R_drewN | apply Kd.R_drew)); exact Kd.R_mono HO251.out (fun _ hk => ⟨hk.1.1.1.1.2, ⟨hk.1.2, hk.1.1.1.2⟩⟩)⟩, ⟨by (with_reducible repeat (first | apply Kd.R_alloc | apply Kd.R_drewN | apply Kd.R_drew)); exact Kd.R_mono HO260.out (fun _ hk => ⟨hk.1.1.1.1.2, ⟨hk.1.1.1.2, hk.1.2⟩⟩)⟩, ⟨by (with_reducible repeat (first | refine blk_drewN ?_ _ | refine blk_drew ?_ | refine blk_alloc ?_ _)); exact BK245.out⟩, ⟨by repeat (first | (with_reducible first | exact HB.out | apply below_alloc | apply pw_below_drewN | apply below_drew1 | refine below_set ?_ GE245.out) | exact HB.out)⟩⟩
        · rw [if_neg c33] at H
          have c33b0 : (t252 == t256) = false := beq_eq_false_iff_ne.mpr c33
          have c33b1 : (t252 != t256) = true := bne_iff_ne.mpr c33
          (first | rw [c33b0] | (simp only [i64_w, i32_w]; rw [c33b0]) | skip)
          have H' := Aside0.mk H
          clear H
          obtain ⟨Ao73, co73, eo73⟩ := Kd.R_slice HO251.out
          subst eo73
          obtain ⟨Ao74, co74, eo74⟩ := Kd.R_slice HO255.out
          subst eo74
          go_wp2_with (first | ((with_reducible refine gate_callee (f := 17) rfl ?_); refine goesL_ (some 86) rfl rfl Try.func17 (by kernel_rfl) rfl #[.slice Ao73 t249.length co73, .slice Ao74 t253.length co74] rfl (by (try simp only [List.map_toArray, List.map_cons, List.map_nil]); first | done | rfl | (simp only [List.length_drop, List.length_take]; rfl)) ?_; (with_reducible refine (sextonref17_Same.calls k _ _ t249 _ _ t253 true _ ?side1 ?side2 ?side3 ?side4 A31.out).mono ?_); (case side1 => repeat (first | exact (Kd.R_reads' HO251.out).2.2 | (with_reducible refine Kd.C_alloc ?_ _) | (with_reducible refine Kd.C_drewN ?_ _) | (with_reducible refine Kd.C_drew ?_))); (case side2 => exact (Kd.R_reads' HO251.out).2.1); (case side3 => repeat (first | exact (Kd.R_reads' HO255.out).2.2 | (with_reducible refine Kd.C_alloc ?_ _) | (with_reducible refine Kd.C_drewN ?_ _) | (with_reducible refine Kd.C_drew ?_))); (case side4 => exact (Kd.R_reads' HO255.out).2.1); rintro e w' ⟨rfl, ⟨nd, rfl⟩⟩; refine ⟨_, rfl, ?_⟩))
          go_meet
          case rel => exact ⟨_, (false), (by first | rfl | (simp; done) | (simp [*]; done)), H', ⟨by first | omega | exact Nat.le_refl _⟩, ⟨by (with_reducible repeat (first | apply Kd.R_alloc | apply Kd.R_drewN | apply Kd.R_drew)); exact Kd.R_mono HO248.out (fun _ hk => ⟨hk.1.1.1.2, ⟨hk.1.2, hk.1.1.1.1.2⟩⟩)⟩, ⟨by (with_reducible repeat (first | apply Kd.R_alloc | apply Kd.R_drewN | apply Kd.R_drew)); exact Kd.R_mono HO251.out (fun _ hk => ⟨hk.1.1.1.1.2, ⟨hk.1.2, hk.1.1.1.2⟩⟩)⟩, ⟨by (with_reducible repeat (first | apply Kd.R_alloc | apply Kd.R_drewN | apply Kd.R_drew)); exact Kd.R_mono HO260.out (fun _ hk => ⟨hk.1.1.1.1.2, ⟨hk.1.1.1.2, hk.1.2⟩⟩)⟩, ⟨by (with_reducible repeat (first | refine blk_drewN ?_ _ | refine blk_drew ?_ | refine blk_alloc ?_ _)); exact BK245.out⟩, ⟨by repeat (first | (with_reducible first | exact HB.out | apply below_alloc | apply pw_below_drewN | apply below_drew1 | refine below_set ?_ GE245.out) | exact HB.out)⟩⟩
      · replace c32 := Bool.eq_false_iff.mpr c32
        subst c32
        have H1 : (sextonlaw17_PinDoes.j0 k l0 t246 t249 t257 false) = some r := by rw [if_neg (show ¬ (false = true) by decide)] at H; exact H
        clear H
        have H := H1
        clear H1
        have H' := Aside0.mk H
        clear H
        obtain ⟨Ao75, co75, eo75⟩ := Kd.R_slice HO251.out
        subst eo75
        obtain ⟨Ao76, co76, eo76⟩ := Kd.R_slice HO255.out
        subst eo76
        go_wp2_with (first | ((with_reducible refine gate_callee (f := 17) rfl ?_); refine goesL_ (some 86) rfl rfl Try.func17 (by kernel_rfl) rfl #[.slice Ao75 t249.length co75, .slice Ao76 t253.length co76] rfl (by (try simp only [List.map_toArray, List.map_cons, List.map_nil]); first | done | rfl | (simp only [List.length_drop, List.length_take]; rfl)) ?_; (with_reducible refine (sextonref17_Same.calls k _ _ t249 _ _ t253 false _ ?side1 ?side2 ?side3 ?side4 A31.out).mono ?_); (case side1 => repeat (first | exact (Kd.R_reads' HO251.out).2.2 | (with_reducible refine Kd.C_alloc ?_ _) | (with_reducible refine Kd.C_drewN ?_ _) | (with_reducible refine Kd.C_drew ?_))); (case side2 => exact (Kd.R_reads' HO251.out).2.1); (case side3 => repeat (first | exact (Kd.R_reads' HO255.out).2.2 | (with_reducible refine Kd.C_alloc ?_ _) | (with_reducible refine Kd.C_drewN ?_ _) | (with_reducible refine Kd.C_drew ?_))); (case side4 => exact (Kd.R_reads' HO255.out).2.1); rintro e w' ⟨rfl, ⟨nd, rfl⟩⟩; refine ⟨_, rfl, ?_⟩))
        go_meet
        case rel => exact ⟨_, (false), (by first | rfl | (simp; done) | (simp [*]; done)), H', ⟨by first | omega | exact Nat.le_refl _⟩, ⟨by (with_reducible repeat (first | apply Kd.R_alloc | apply Kd.R_drewN | apply Kd.R_drew)); exact Kd.R_mono HO248.out (fun _ hk => ⟨hk.1.1.1.2, ⟨hk.1.2, hk.1.1.1.1.2⟩⟩)⟩, ⟨by (with_reducible repeat (first | apply Kd.R_alloc | apply Kd.R_drewN | apply Kd.R_drew)); exact Kd.R_mono HO251.out (fun _ hk => ⟨hk.1.1.1.1.2, ⟨hk.1.2, hk.1.1.1.2⟩⟩)⟩, ⟨by (with_reducible repeat (first | apply Kd.R_alloc | apply Kd.R_drewN | apply Kd.R_drew)); exact Kd.R_mono HO260.out (fun _ hk => ⟨hk.1.1.1.1.2, ⟨hk.1.1.1.2, hk.1.2⟩⟩)⟩, ⟨by (with_reducible repeat (first | refine blk_drewN ?_ _ | refine blk_drew ?_ | refine blk_alloc ?_ _)); exact BK245.out⟩, ⟨by repeat (first | (with_reducible first | exact HB.out | apply below_alloc | apply pw_below_drewN | apply below_drew1 | refine below_set ?_ GE245.out) | exact HB.out)⟩⟩
    case rest =>
      clear HC18
      try clear c1
      try clear p2
      try clear c3
      try clear c4
      try clear c7
      try clear c7b0
      try clear c7b1
      try clear c8
      try clear c9
      try clear c10
      try clear c11
      try clear c12
      try clear c13
      try clear c14
      try clear c15
      try clear c16
      try clear c17
      try clear c32
      try clear c33
      try clear c33b0
      try clear c33b1
      try clear c35
      try clear c36
      try clear c36b0
      try clear c36b1
      try clear c37
      try clear c37b0
      try clear c37b1
      try clear c38
      try clear c38b0
      try clear c38b1
      try clear c38b2
      try clear c39
      try clear c39b0
      try clear c39b1
      try clear c40
      try clear c40b0
      try clear c40b1
      try clear c40b2
      try clear hcz21_0
      try clear hcz21_1
      try clear hcz23_0
      try clear hcz23_1
      try clear hfz21_0
      try clear hfz21_1
      try clear hfz23_0
      try clear hfz23_1
      obtain ⟨kq, x30_17, rfl, HA, HJ17, HO_13, HO_14, HO_18, BK245, HB⟩ := hcut
      cases kq with
      | zero => exact absurd HA.out (by simp [sextonlaw17_PinDoes.j0])
      | succ kj17 =>
        have H := HA.out
        clear HA
        simp only [sextonlaw17_PinDoes.j0] at H
        have H' := Aside0.mk H
        clear H
        go_wp2
        go_loopg [31] kj17 (fun kq v31 w' => ∃ (x14_2 : List (S24)) (x31_2 : Int) (x246001_2 : Int), v31 = .int .i64 x31_2 ∧ Aside0 (sextonlaw17_PinDoes.l0 kq l0 t246 x14_2 t257 x30_17 x31_2 = some r) ∧ Aside0 (kq ≤ kj17) ∧ Aside0 (Kd.R k24 24 w' w.heap.size (fun k_ => some k_ ≠ (v250 : Value).ownBlock ∧ some k_ ≠ (v259 : Value).ownBlock ∧ k_ ≠ gb245) (.slice Ao24 t246.length co24) t246) ∧ Aside0 (Kd.R k24 24 w' w.heap.size (fun k_ => some k_ ≠ ((.slice Ao24 t246.length co24) : Value).ownBlock ∧ some k_ ≠ (v259 : Value).ownBlock ∧ k_ ≠ gb245) v250 x14_2) ∧ Aside0 (Kd.R k24 24 w' w.heap.size (fun k_ => some k_ ≠ ((.slice Ao24 t246.length co24) : Value).ownBlock ∧ some k_ ≠ (v250 : Value).ownBlock ∧ k_ ≠ gb245) v259 t257) ∧ Aside0 (w'.heap[gb245]? = some (.cells #[.int .i64 a1_0, .int .i64 x246001_2] 24 (0, 0))) ∧ Aside0 (Below w.heap.size w w'))
        case atStart => exact ⟨(t249), (0), (a1_1), (by first | rfl | (simp; done) | (simp [*]; done)), H', ⟨Nat.le_refl _⟩, ⟨by (with_reducible repeat (first | apply Kd.R_alloc | apply Kd.R_drewN | apply Kd.R_drew)); exact HO_13.out⟩, ⟨by (with_reducible repeat (first | apply Kd.R_alloc | apply Kd.R_drewN | apply Kd.R_drew)); exact HO_14.out⟩, ⟨by (with_reducible repeat (first | apply Kd.R_alloc | apply Kd.R_drewN | apply Kd.R_drew)); exact HO_18.out⟩, ⟨by (with_reducible repeat (first | refine blk_drewN ?_ _ | refine blk_drew ?_ | refine blk_alloc ?_ _)); exact BK245.out⟩, ⟨by repeat (first | (with_reducible first | exact HB.out | apply below_alloc | apply pw_below_drewN | apply below_drew1 | refine below_set ?_ GE245.out) | exact HB.out)⟩⟩
        case round =>
          clear H'
          try clear c1
          try clear p2
          try clear c3
          try clear c4
          try clear c7
          try clear c7b0
          try clear c7b1
          try clear c8
          try clear c9
          try clear c10
          try clear c11
          try clear c12
          try clear c13
          try clear c14
          try clear c15
          try clear c16
          try clear c17
          try clear c32
          try clear c33
          try clear c33b0
          try clear c33b1
          try clear c35
          try clear c36
          try clear c36b0
          try clear c36b1
          try clear c37
          try clear c37b0
          try clear c37b1
          try clear c38
          try clear c38b0
          try clear c38b1
          try clear c38b2
          try clear c39
          try clear c39b0
          try clear c39b1
          try clear c40
          try clear c40b0
          try clear c40b1
          try clear c40b2
          try clear hcz21_0
          try clear hcz21_1
          try clear hcz23_0
          try clear hcz23_1
          try clear hfz21_0
          try clear hfz21_1
          try clear hfz23_0
          try clear hfz23_1
          try clear p2
          obtain ⟨x14_2, x31_2, x246001_2, rfl, HA, HK2, HO_13, HO_14, HO_18, BK245, HB⟩ := hrel
          cases gk with
          | zero => exact absurd HA.out (by simp [sextonlaw17_PinDoes.l0])
          | succ k2 =>
            have H := HA.out
            clear HA
            simp only [sextonlaw17_PinDoes.l0] at H
            by_cases c77 : x31_2 < (x14_2.length : Int)
            · rw [if_pos c77] at H
              have c77b0 : decide (x31_2 < (x14_2.length : Int)) = true := decide_eq_true c77
              clear c77
              by_cases c78 : 0 ≤ x31_2
              · rw [if_pos c78] at H
                have c78b0 : decide (0 ≤ x31_2) = true := decide_eq_true c78
                clear c78
                obtain ⟨y277, hy277⟩ : ∃ y_ : List (S24), y_ = (x14_2.set (x31_2 : Int).toNat (⟨(rd_T24 x14_2 x31_2).f0, (-7)⟩ : S24)) := ⟨_, rfl⟩
                replace H : (sextonlaw17_PinDoes.l0 k2 l0 t246 y277 t257 x30_17 (wrap64 (x31_2 + 1))) = some r := by first | (rw [hy277]; with_reducible exact H) | (have H2_ := (Option.bind_some _ _).symm.trans H; rw [hy277]; with_reducible exact H2_) | (have H2_ := (Option.bind_some _ _).symm.trans H; with_reducible exact H2_) | with_reducible exact H | (rw [hy277]; exact H) | exact H
                have Ny277 := Aside0.mk hy277
                clear hy277
                have H' := Aside0.mk H
                clear H
                obtain ⟨Ao80, co80, eo80⟩ := Kd.R_slice HO_14.out
                subst eo80
                have p79 : 0 ≤ (x31_2 : Int) := of_decide_eq_true (by first | (with_reducible assumption) | assumption)
                have q79 : (x31_2 : Int) < ((x14_2.length : Int) : Int) := of_decide_eq_true (by first | (with_reducible assumption) | assumption)
                obtain ⟨go79, co79, eo79, gb79, gl79, cl79, HG79⟩ := Kd.R_form HO_14.out (by omega)
                (first | cases eo79 | (injection eo79 with ea_ en_ ec_; (first | subst ea_ | (injection ea_ with ea_; subst ea_)); subst ec_; clear en_))
                have GB79 := Aside0.mk gb79
                have GG79 := Aside0.mk HG79
                clear gb79 gl79 HG79
                obtain ⟨ce79, hcl79, hM79, hcc79, hfr79⟩ := Kd.R_elem HO_14.out z24 (x31_2 : Int) p79 q79
                obtain rfl := k24_openM hM79
                have hx79_0 : wr.cell? ⟨go79, (x31_2 : Int).toNat * 2, none⟩ = some (.int .i64 ((rd_T24 x14_2 x31_2).f0)) := hcc79 0 _ rfl
                have hx79_1 : wr.cell? ⟨go79, (x31_2 : Int).toNat * 2 + 1, none⟩ = some (.int .i64 ((rd_T24 x14_2 x31_2).f1)) := hcc79 1 _ rfl
                have hf79_0 : wr.frozen? ⟨go79, (x31_2 : Int).toNat * 2, none⟩ = false := hfr79 0
                have hf79_1 : wr.frozen? ⟨go79, (x31_2 : Int).toNat * 2 + 1, none⟩ = false := hfr79 1
                clear hcl79 hcc79 hfr79 hM79
                replace p79 := eq_true p79
                replace q79 := eq_true q79
                have HX81 := Aside0.mk (show Kd.R k24 24 wr w.heap.size (fun k_ => some k_ ≠ (.slice Ao24 t246.length co24 : Value).ownBlock ∧ some k_ ≠ (v259 : Value).ownBlock ∧ k_ ≠ gb245) (.slice (some ⟨go79, 0, none⟩) x14_2.length co80) x14_2 from (by (with_reducible repeat (first | apply Kd.R_alloc | apply Kd.R_drewN | apply Kd.R_drew)); exact HO_14.out))
                obtain ⟨ce81, hcl81, hM81, hcc81, hfr81⟩ := Kd.R_elem HX81.out z24 (x31_2 : Int) (of_decide_eq_true (by first | (with_reducible assumption) | assumption)) (by have h_ : (x31_2 : Int) < ((x14_2.length : Int) : Int) := of_decide_eq_true (by first | (with_reducible assumption) | assumption); first | exact h_ | (have e_ := (Kd.R_reads' HO_14.out).1; omega) | simpa using h_)
                obtain rfl := k24_openM hM81
                have HP81 := Kd.R_seg HX81.out (x31_2 : Int) (of_decide_eq_true (by first | (with_reducible assumption) | assumption)) (by have h_ : (x31_2 : Int) < ((x14_2.length : Int) : Int) := of_decide_eq_true (by first | (with_reducible assumption) | assumption); first | exact h_ | (have e_ := (Kd.R_reads' HO_14.out).1; omega) | simpa using h_) (seg := [.int .i64 (-7)]) (j := 1) hcl81 hcc81 (show 2 ≤ 2 from by decide) (x' := (⟨(rd_T24 x14_2 x31_2).f0, (-7)⟩ : S24)) (k24_mkM _ _ _ (⟨(rd_T24 x14_2 x31_2).f0, (-7)⟩ : S24) ) (fun _ hk => hk)
                have hx81_1 := hcc81 1 _ rfl
                (try simp only [show (k24).sz = 2 from rfl, Nat.mul_one, Nat.add_zero] at hx81_1)
                have hf81_1 := hfr81 1
                (try simp only [show (k24).sz = 2 from rfl, Nat.mul_one, Nat.add_zero] at hf81_1)
                clear hcl81 hcc81 hfr81 hM81
                go_wp2_with (first | ((with_reducible refine gate_store (t := 3) (p := 144) rfl ?_); refine store_event (t := 3) (p := 144) (v := ?vo_w82) (w1 := (wr.setCell ⟨go79, (x31_2 : Int).toNat * 2 + 1, none⟩ (.int .i64 (-7)))) ?hg ?ho ?hn ?hr ?_; (case ho => rfl); (case hg => rfl); (case hn => rfl); (case hr => first | (go_simp; done) | (go_simp; rfl)); intro w82 hw; have hg : wr.grownBy w82 (some go79) := (by rw [hw]; exact HP81.2); have hp_ : Kd.R k24 24 w82 w.heap.size (fun k_ => some k_ ≠ (.slice Ao24 t246.length co24 : Value).ownBlock ∧ some k_ ≠ (v259 : Value).ownBlock ∧ k_ ≠ gb245) (.slice (some ⟨go79, 0, none⟩) x14_2.length co80) y277 := (by rw [hw, Ny277.out]; exact HP81.1); clear HP81; have n0_ := Aside0.mk (Kd.R_after (v := (.slice (some ⟨go79, 0, none⟩) x14_2.length co80)) (v1 := (.slice (some ⟨go79, 0, none⟩) x14_2.length co80)) (ok := (fun k_ => some k_ ≠ (v259 : Value).ownBlock ∧ k_ ≠ gb245)) (by (with_reducible repeat (first | apply Kd.R_alloc | apply Kd.R_drewN | apply Kd.R_drew)); exact Kd.R_mono HO_13.out (fun _ hk => ⟨⟨hk.2.1, hk.2.2⟩, hk.1⟩)) hg (.inl rfl)); have n1_ := Aside0.mk (hp_); have n2_ := Aside0.mk (Kd.R_after (v := (.slice (some ⟨go79, 0, none⟩) x14_2.length co80)) (v1 := (.slice (some ⟨go79, 0, none⟩) x14_2.length co80)) (ok := (fun k_ => some k_ ≠ (.slice Ao24 t246.length co24 : Value).ownBlock ∧ k_ ≠ gb245)) (by (with_reducible repeat (first | apply Kd.R_alloc | apply Kd.R_drewN | apply Kd.R_drew)); exact Kd.R_mono HO_18.out (fun _ hk => ⟨⟨hk.1, hk.2.2⟩, hk.2.1⟩)) hg (.inl rfl)); have n3_ := Aside0.mk (blk_grown (g := gb245) (o := .cells #[.int .i64 a1_0, .int .i64 x246001_2] 24 (0, 0)) (by (with_reducible repeat (first | refine blk_drewN ?_ _ | refine blk_drew ?_ | refine blk_alloc ?_ _)); exact BK245.out) hg (Kd.R_away HO_14.out (fun _ hk => hk.2.2))); have n4_ := Aside0.mk ((by rw [hw]; exact below_set (HB.out) GB79.out : Below w.heap.size w w82)); clear HO_13; clear HO_14; clear HO_18; clear BK245; clear HB; have HO_13 := n0_; have HO_14 := n1_; have HO_18 := n2_; have BK245 := n3_; have HB := n4_; clear n0_ n1_ n2_ n3_ n4_; clear hg hw hp_))
                go_roundg k2
                case measure => have := HJ17.out; have := HK2.out; omega
                case rel => exact ⟨(y277), (wrap64 (x31_2 + 1)), (x246001_2), (by first | rfl | (simp; done) | (simp [*]; done)), H', ⟨by have := HJ17.out; have := HK2.out; omega⟩, ⟨by (with_reducible repeat (first | apply Kd.R_alloc | apply Kd.R_drewN | apply Kd.R_drew)); exact Kd.R_mono HO_13.out (fun _ hk => ⟨hk.2, ⟨hk.1.1, hk.1.2⟩⟩)⟩, ⟨by (with_reducible repeat (first | apply Kd.R_alloc | apply Kd.R_drewN | apply Kd.R_drew)); exact HO_14.out⟩, ⟨by (with_reducible repeat (first | apply Kd.R_alloc | apply Kd.R_drewN | apply Kd.R_drew)); exact Kd.R_mono HO_18.out (fun _ hk => ⟨hk.1.1, ⟨hk.2, hk.1.2⟩⟩)⟩, ⟨by (with_reducible repeat (first | refine blk_drewN ?_ _ | refine blk_drew ?_ | refine blk_alloc ?_ _)); exact BK245.out⟩, ⟨by repeat (first | (with_reducible first | exact HB.out | apply below_alloc | apply pw_below_drewN | apply below_drew1 | refine below_set ?_ GE245.out) | exact HB.out)⟩⟩
              · rw [if_neg c78] at H
                exact absurd H (by simp)
            · rw [if_neg c77] at H
              have c77b0 : decide (x31_2 < (x14_2.length : Int)) = false := decide_eq_false c77
              clear c77
              have H' := Aside0.mk H
              clear H
              obtain ⟨Ao83, co83, eo83⟩ := Kd.R_slice HO_14.out
              subst eo83
              go_wp2
              go_loopg [32] k2 (fun kq v32 w' => ∃ (x18_3 : List (S24)) (x32_3 : Int) (x246001_3 : Int), v32 = .int .i64 x32_3 ∧ Aside0 (sextonlaw17_PinDoes.l1 kq l0 t246 x18_3 x30_17 x32_3 = some r) ∧ Aside0 (kq ≤ k2) ∧ Aside0 (Kd.R k24 24 w' w.heap.size (fun k_ => some k_ ≠ (v259 : Value).ownBlock ∧ k_ ≠ gb245) (.slice Ao24 t246.length co24) t246) ∧ Aside0 (Kd.R k24 24 w' w.heap.size (fun k_ => some k_ ≠ ((.slice Ao24 t246.length co24) : Value).ownBlock ∧ k_ ≠ gb245) v259 x18_3) ∧ Aside0 (w'.heap[gb245]? = some (.cells #[.int .i64 a1_0, .int .i64 x246001_3] 24 (0, 0))) ∧ Aside0 (Below w.heap.size w w'))
              case atStart => exact ⟨(t257), (0), (x246001_2), (by first | rfl | (simp; done) | (simp [*]; done)), H', ⟨Nat.le_refl _⟩, ⟨by (with_reducible repeat (first | apply Kd.R_alloc | apply Kd.R_drewN | apply Kd.R_drew)); exact Kd.R_mono HO_13.out (fun _ hk => ⟨hk.2.1, hk.2.2⟩)⟩, ⟨by (with_reducible repeat (first | apply Kd.R_alloc | apply Kd.R_drewN | apply Kd.R_drew)); exact Kd.R_mono HO_18.out (fun _ hk => ⟨hk.1, hk.2.2⟩)⟩, ⟨by (with_reducible repeat (first | refine blk_drewN ?_ _ | refine blk_drew ?_ | refine blk_alloc ?_ _)); exact BK245.out⟩, ⟨by repeat (first | (with_reducible first | exact HB.out | apply below_alloc | apply pw_below_drewN | apply below_drew1 | refine below_set ?_ GE245.out) | exact HB.out)⟩⟩
              case round =>
                clear H'
                try clear c1
                try clear p2
                try clear c3
                try clear c4
                try clear p6
                try clear c7
                try clear c7b0
                try clear c7b1
                try clear p7
                try clear q7
                try clear hx7
                try clear hf7
                try clear c8
                try clear hx8
                try clear hf8
                try clear c9
                try clear c10
                try clear c11
                try clear c12
                try clear c13
                try clear c14
                try clear c15
                try clear c16
                try clear c17
                try clear c32
                try clear c33
                try clear c33b0
                try clear c33b1
                try clear c35
                try clear c36
                try clear c36b0
                try clear c36b1
                try clear c37
                try clear c37b0
                try clear c37b1
                try clear c38
                try clear c38b0
                try clear c38b1
                try clear c38b2
                try clear c39
                try clear c39b0
                try clear c39b1
                try clear c40
                try clear c40b0
                try clear c40b1
                try clear c40b2
                try clear p64
                try clear c77
                try clear c77b0
                try clear c78
                try clear c78b0
                try clear c79
                try clear p79
                try clear q79
                try clear hx79
                try clear hf79
                try clear c81
                try clear hx81
                try clear hf81
                try clear hcz21_0
                try clear hcz21_1
                try clear hcz23_0
                try clear hcz23_1
                try clear hfz21_0
                try clear hfz21_1
                try clear hfz23_0
                try clear hfz23_1
                try clear hx79_0
                try clear hx79_1
                try clear hx81_1
                try clear p2
                try clear p79
                try clear q79
                obtain ⟨x18_3, x32_3, x246001_3, rfl, HA, HK3, HO_13, HO_18, BK245, HB⟩ := hrel
                cases gk with
                | zero => exact absurd HA.out (by simp [sextonlaw17_PinDoes.l1])
                | succ k3 =>
                  have H := HA.out
                  clear HA
                  simp only [sextonlaw17_PinDoes.l1] at H
                  by_cases c84 : x32_3 < (x18_3.length : Int)
                  · rw [if_pos c84] at H
                    have c84b0 : decide (x32_3 < (x18_3.length : Int)) = true := decide_eq_true c84
                    clear c84
                    by_cases c85 : 0 ≤ x32_3
                    · rw [if_pos c85] at H
                      have c85b0 : decide (0 ≤ x32_3) = true := decide_eq_true c85
                      clear c85
                      obtain ⟨y278, hy278⟩ : ∃ y_ : List (S24), y_ = (x18_3.set (x32_3 : Int).toNat (⟨(rd_T24 x18_3 x32_3).f0, (-7)⟩ : S24)) := ⟨_, rfl⟩
                      replace H : (sextonlaw17_PinDoes.l1 k3 l0 t246 y278 x30_17 (wrap64 (x32_3 + 1))) = some r := by first | (rw [hy278]; with_reducible exact H) | (have H2_ := (Option.bind_some _ _).symm.trans H; rw [hy278]; with_reducible exact H2_) | (have H2_ := (Option.bind_some _ _).symm.trans H; with_reducible exact H2_) | with_reducible exact H | (rw [hy278]; exact H) | exact H
                      have Ny278 := Aside0.mk hy278
                      clear hy278
                      have H' := Aside0.mk H
                      clear H
                      obtain ⟨Ao87, co87, eo87⟩ := Kd.R_slice HO_18.out
                      subst eo87
                      have p86 : 0 ≤ (x32_3 : Int) := of_decide_eq_true (by first | (with_reducible assumption) | assumption)
                      have q86 : (x32_3 : Int) < ((x18_3.length : Int) : Int) := of_decide_eq_true (by first | (with_reducible assumption) | assumption)
                      obtain ⟨go86, co86, eo86, gb86, gl86, cl86, HG86⟩ := Kd.R_form HO_18.out (by omega)
                      (first | cases eo86 | (injection eo86 with ea_ en_ ec_; (first | subst ea_ | (injection ea_ with ea_; subst ea_)); subst ec_; clear en_))
                      have GB86 := Aside0.mk gb86
                      have GG86 := Aside0.mk HG86
                      clear gb86 gl86 HG86
                      obtain ⟨ce86, hcl86, hM86, hcc86, hfr86⟩ := Kd.R_elem HO_18.out z24 (x32_3 : Int) p86 q86
                      obtain rfl := k24_openM hM86
                      have hx86_0 : wr.cell? ⟨go86, (x32_3 : Int).toNat * 2, none⟩ = some (.int .i64 ((rd_T24 x18_3 x32_3).f0)) := hcc86 0 _ rfl
                      have hx86_1 : wr.cell? ⟨go86, (x32_3 : Int).toNat * 2 + 1, none⟩ = some (.int .i64 ((rd_T24 x18_3 x32_3).f1)) := hcc86 1 _ rfl
                      have hf86_0 : wr.frozen? ⟨go86, (x32_3 : Int).toNat * 2, none⟩ = false := hfr86 0
                      have hf86_1 : wr.frozen? ⟨go86, (x32_3 : Int).toNat * 2 + 1, none⟩ = false := hfr86 1
                      clear hcl86 hcc86 hfr86 hM86
                      replace p86 := eq_true p86
                      replace q86 := eq_true q86
                      have HX88 := Aside0.mk (show Kd.R k24 24 wr w.heap.size (fun k_ => some k_ ≠ (.slice Ao24 t246.length co24 : Value).ownBlock ∧ k_ ≠ gb245) (.slice (some ⟨go86, 0, none⟩) x18_3.length co87) x18_3 from (by (with_reducible repeat (first | apply Kd.R_alloc | apply Kd.R_drewN | apply Kd.R_drew)); exact HO_18.out))
                      obtain ⟨ce88, hcl88, hM88, hcc88, hfr88⟩ := Kd.R_elem HX88.out z24 (x32_3 : Int) (of_decide_eq_true (by first | (with_reducible assumption) | assumption)) (by have h_ : (x32_3 : Int) < ((x18_3.length : Int) : Int) := of_decide_eq_true (by first | (with_reducible assumption) | assumption); first | exact h_ | (have e_ := (Kd.R_reads' HO_18.out).1; omega) | simpa using h_)
                      obtain rfl := k24_openM hM88
                      have HP88 := Kd.R_seg HX88.out (x32_3 : Int) (of_decide_eq_true (by first | (with_reducible assumption) | assumption)) (by have h_ : (x32_3 : Int) < ((x18_3.length : Int) : Int) := of_decide_eq_true (by first | (with_reducible assumption) | assumption); first | exact h_ | (have e_ := (Kd.R_reads' HO_18.out).1; omega) | simpa using h_) (seg := [.int .i64 (-7)]) (j := 1) hcl88 hcc88 (show 2 ≤ 2 from by decide) (x' := (⟨(rd_T24 x18_3 x32_3).f0, (-7)⟩ : S24)) (k24_mkM _ _ _ (⟨(rd_T24 x18_3 x32_3).f0, (-7)⟩ : S24) ) (fun _ hk => hk)
                      have hx88_1 := hcc88 1 _ rfl
                      (try simp only [show (k24).sz = 2 from rfl, Nat.mul_one, Nat.add_zero] at hx88_1)
                      have hf88_1 := hfr88 1
                      (try simp only [show (k24).sz = 2 from rfl, Nat.mul_one, Nat.add_zero] at hf88_1)
                      clear hcl88 hcc88 hfr88 hM88
                      go_wp2_with (first | ((with_reducible refine gate_store (t := 3) (p := 154) rfl ?_); refine store_event (t := 3) (p := 154) (v := ?vo_w89) (w1 := (wr.setCell ⟨go86, (x32_3 : Int).toNat * 2 + 1, none⟩ (.int .i64 (-7)))) ?hg ?ho ?hn ?hr ?_; (case ho => rfl); (case hg => rfl); (case hn => rfl); (case hr => first | (go_simp; done) | (go_simp; rfl)); intro w89 hw; have hg : wr.grownBy w89 (some go86) := (by rw [hw]; exact HP88.2); have hp_ : Kd.R k24 24 w89 w.heap.size (fun k_ => some k_ ≠ (.slice Ao24 t246.length co24 : Value).ownBlock ∧ k_ ≠ gb245) (.slice (some ⟨go86, 0, none⟩) x18_3.length co87) y278 := (by rw [hw, Ny278.out]; exact HP88.1); clear HP88; have n0_ := Aside0.mk (Kd.R_after (v := (.slice (some ⟨go86, 0, none⟩) x18_3.length co87)) (v1 := (.slice (some ⟨go86, 0, none⟩) x18_3.length co87)) (ok := (fun k_ => k_ ≠ gb245)) (by (with_reducible repeat (first | apply Kd.R_alloc | apply Kd.R_drewN | apply Kd.R_drew)); exact Kd.R_mono HO_13.out (fun _ hk => ⟨hk.2, hk.1⟩)) hg (.inl rfl)); have n1_ := Aside0.mk (hp_); have n2_ := Aside0.mk (blk_grown (g := gb245) (o := .cells #[.int .i64 a1_0, .int .i64 x246001_3] 24 (0, 0)) (by (with_reducible repeat (first | refine blk_drewN ?_ _ | refine blk_drew ?_ | refine blk_alloc ?_ _)); exact BK245.out) hg (Kd.R_away HO_18.out (fun _ hk => hk.2))); have n3_ := Aside0.mk ((by rw [hw]; exact below_set (HB.out) GB86.out : Below w.heap.size w w89)); clear HO_13; clear HO_18; clear BK245; clear HB; have HO_13 := n0_; have HO_18 := n1_; have BK245 := n2_; have HB := n3_; clear n0_ n1_ n2_ n3_; clear hg hw hp_))
                      go_roundg k3
                      case measure => have := HJ17.out; have := HK2.out; have := HK3.out; omega
                      case rel => exact ⟨(y278), (wrap64 (x32_3 + 1)), (x246001_3), (by first | rfl | (simp; done) | (simp [*]; done)), H', ⟨by have := HJ17.out; have := HK2.out; have := HK3.out; omega⟩, ⟨by (with_reducible repeat (first | apply Kd.R_alloc | apply Kd.R_drewN | apply Kd.R_drew)); exact Kd.R_mono HO_13.out (fun _ hk => ⟨hk.2, hk.1⟩)⟩, ⟨by (with_reducible repeat (first | apply Kd.R_alloc | apply Kd.R_drewN | apply Kd.R_drew)); exact HO_18.out⟩, ⟨by (with_reducible repeat (first | refine blk_drewN ?_ _ | refine blk_drew ?_ | refine blk_alloc ?_ _)); exact BK245.out⟩, ⟨by repeat (first | (with_reducible first | exact HB.out | apply below_alloc | apply pw_below_drewN | apply below_drew1 | refine below_set ?_ GE245.out) | exact HB.out)⟩⟩
                    · rw [if_neg c85] at H
                      exact absurd H (by simp)
                  · rw [if_neg c84] at H
                    have c84b0 : decide (x32_3 < (x18_3.length : Int)) = false := decide_eq_false c84
                    clear c84
                    replace H := Option.bind_eq_some_iff.mp H
                    obtain ⟨t279, A900, H⟩ := H
                    replace H : (if t279 = true then (if x30_17 = true then ((pin_Is.f k3 l0).bind fun t280 => ((sextonref17_Is.f k3 t246).bind fun t281 => (if (t280 == t281) = true then ((sextonref17_Same.f k3 l0 t246).bind fun t282 => (some t282)) else (some false)))) else (some false)) else (some false)) = some r := H
                    have A90 := Aside0.mk A900
                    clear A900
                    by_cases c91 : t279 = true
                    · subst c91
                      have H1 : (if x30_17 = true then ((pin_Is.f k3 l0).bind fun t280 => ((sextonref17_Is.f k3 t246).bind fun t281 => (if (t280 == t281) = true then ((sextonref17_Same.f k3 l0 t246).bind fun t282 => (some t282)) else (some false)))) else (some false)) = some r := by rw [if_pos rfl] at H; exact H
                      clear H
                      have H := H1
                      clear H1
                      by_cases c92 : x30_17 = true
                      · subst c92
                        have H1 : ((pin_Is.f k3 l0).bind fun t280 => ((sextonref17_Is.f k3 t246).bind fun t281 => (if (t280 == t281) = true then ((sextonref17_Same.f k3 l0 t246).bind fun t282 => (some t282)) else (some false)))) = some r := by rw [if_pos rfl] at H; exact H
                        clear H
                        have H := H1
                        clear H1
                        replace H := Option.bind_eq_some_iff.mp H
                        obtain ⟨t280, A930, H⟩ := H
                        replace H : ((sextonref17_Is.f k3 t246).bind fun t281 => (if (t280 == t281) = true then ((sextonref17_Same.f k3 l0 t246).bind fun t282 => (some t282)) else (some false))) = some r := H
                        have A93 := Aside0.mk A930
                        clear A930
                        replace H := Option.bind_eq_some_iff.mp H
                        obtain ⟨t281, A940, H⟩ := H
                        replace H : (if (t280 == t281) = true then ((sextonref17_Same.f k3 l0 t246).bind fun t282 => (some t282)) else (some false)) = some r := H
                        have A94 := Aside0.mk A940
                        clear A940
                        by_cases c95 : (t280 == t281) = true
                        · rw [if_pos c95] at H
                          have c95b0 : (t280 == t281) = true := c95
                          (try (have c95b1 : decide (t280 = t281) = true := by simpa using c95))
                          (try (have c95b2 : (t280 == t281) = true := by simpa using c95))
                          clear c95
                          replace H := Option.bind_eq_some_iff.mp H
                          obtain ⟨t282, A960, H⟩ := H
                          replace H : (some t282) = some r := H
                          have A96 := Aside0.mk A960
                          clear A960
                          obtain rfl := Option.some.inj H
                          obtain ⟨Ao97, co97, eo97⟩ := Kd.R_slice HO_18.out
                          subst eo97
                          go_wp2_with (first | ((with_reducible refine gate_callee (f := 20) rfl ?_); refine goesL_ (some 155) rfl rfl Try.func20 (by kernel_rfl) rfl #[] rfl (by (try simp only [List.map_toArray, List.map_cons, List.map_nil]); first | done | rfl | (simp only [List.length_drop, List.length_take]; rfl)) ?_; (with_reducible refine (sextonlaw17_pinned.calls k3  true _ A90.out (sextonlaw17_pinned.istrue A90.out)).mono ?_); rintro e w98 ⟨rfl, hb⟩; refine ⟨_, rfl, ?_⟩; have n0_ := Aside0.mk (Kd.R_below (by (with_reducible repeat (first | apply Kd.R_alloc | apply Kd.R_drewN | apply Kd.R_drew)); exact HO_13.out) hb); have n1_ := Aside0.mk (Kd.R_below (by (with_reducible repeat (first | apply Kd.R_alloc | apply Kd.R_drewN | apply Kd.R_drew)); exact HO_18.out) hb); have n2_ := Aside0.mk (blk_below (g := gb245) (o := .cells #[.int .i64 a1_0, .int .i64 x246001_3] 24 (0, 0)) (by (with_reducible repeat (first | refine blk_drewN ?_ _ | refine blk_drew ?_ | refine blk_alloc ?_ _)); exact BK245.out) hb); have n3_ := Aside0.mk (below_step (by repeat (first | (with_reducible first | exact HB.out | apply below_alloc | apply pw_below_drewN | apply below_drew1 | refine below_set ?_ GE245.out) | exact HB.out)) hb); clear HO_13; clear HO_18; clear BK245; clear HB; have HO_13 := n0_; have HO_18 := n1_; have BK245 := n2_; have HB := n3_; clear n0_ n1_ n2_ n3_; (try clear hb); (try clear hb2); (try clear hk); (try clear hi)) | (go_at_call 21; (with_reducible refine (pin_Is.calls k3 _ _ l0 t280 _ ?side1 ?side2 A93.out).mono ?_); (case side1 => repeat (first | exact (Kd.C_below HR0.out HB.out) | (with_reducible refine Kd.C_alloc ?_ _) | (with_reducible refine Kd.C_drewN ?_ _) | (with_reducible refine Kd.C_drew ?_))); (case side2 => exact HC0.out); rintro e w99 ⟨rfl, hb⟩; have n0_ := Aside0.mk (Kd.R_below (by (with_reducible repeat (first | apply Kd.R_alloc | apply Kd.R_drewN | apply Kd.R_drew)); exact HO_13.out) hb); have n1_ := Aside0.mk (Kd.R_below (by (with_reducible repeat (first | apply Kd.R_alloc | apply Kd.R_drewN | apply Kd.R_drew)); exact HO_18.out) hb); have n2_ := Aside0.mk (blk_below (g := gb245) (o := .cells #[.int .i64 a1_0, .int .i64 x246001_3] 24 (0, 0)) (by (with_reducible repeat (first | refine blk_drewN ?_ _ | refine blk_drew ?_ | refine blk_alloc ?_ _)); exact BK245.out) hb); have n3_ := Aside0.mk (below_step (by repeat (first | (with_reducible first | exact HB.out | apply below_alloc | apply pw_below_drewN | apply below_drew1 | refine below_set ?_ GE245.out) | exact HB.out)) hb); clear HO_13; clear HO_18; clear BK245; clear HB; have HO_13 := n0_; have HO_18 := n1_; have BK245 := n2_; have HB := n3_; clear n0_ n1_ n2_ n3_; (try clear hb); (try clear hb2); (try clear hk); (try clear hi)) | (go_at_call 22; (with_reducible refine (sextonref17_Is.calls k3 _ _ t246 t281 _ ?side1 ?side2 A94.out).mono ?_); (case side1 => repeat (first | exact (Kd.R_reads' HO_13.out).2.2 | (with_reducible refine Kd.C_alloc ?_ _) | (with_reducible refine Kd.C_drewN ?_ _) | (with_reducible refine Kd.C_drew ?_))); (case side2 => exact (Kd.R_reads' HO_13.out).2.1); rintro e w' ⟨rfl, ⟨nd, rfl⟩⟩) | (go_at_call 17; (with_reducible refine (sextonref17_Same.calls k3 _ _ l0 _ _ t246 t282 _ ?side1 ?side2 ?side3 ?side4 A96.out).mono ?_); (case side1 => repeat (first | exact (Kd.C_below HR0.out (by repeat (first | (with_reducible first | exact HB.out | apply below_alloc | apply pw_below_drewN | apply below_drew1 | refine below_set ?_ GE245.out) | exact HB.out))) | (with_reducible refine Kd.C_alloc ?_ _) | (with_reducible refine Kd.C_drewN ?_ _) | (with_reducible refine Kd.C_drew ?_))); (case side2 => exact HC0.out); (case side3 => repeat (first | exact (Kd.R_reads' HO_13.out).2.2 | (with_reducible refine Kd.C_alloc ?_ _) | (with_reducible refine Kd.C_drewN ?_ _) | (with_reducible refine Kd.C_drew ?_))); (case side4 => exact (Kd.R_reads' HO_13.out).2.1); rintro e w' ⟨rfl, ⟨nd, rfl⟩⟩))
                          go_ret
                          exact ⟨by first | rfl | (simp [errW_none, errW_some] <;> rfl) | (simp [*, errW_none, errW_some] <;> rfl), by repeat (first | (with_reducible first | exact HB.out | apply below_alloc | apply pw_below_drewN | apply below_drew1 | refine below_set ?_ GE245.out) | exact HB.out)⟩
                        · rw [if_neg c95] at H
                          have c95b0 : (t280 == t281) = false := by simpa using c95
                          (try (have c95b1 : decide (t280 = t281) = false := by simpa using c95))
                          (try (have c95b2 : (t280 == t281) = false := by simpa using c95))
                          (try (have c95b3 : ¬ (t280 = t281) := by simpa using c95))
                          clear c95
                          exact absurd (H.trans (congrArg some HT.out)) (by simp)
                      · replace c92 := Bool.eq_false_iff.mpr c92
                        subst c92
                        have H1 : (some false) = some r := by rw [if_neg (show ¬ (false = true) by decide)] at H; exact H
                        clear H
                        have H := H1
                        clear H1
                        exact absurd (H.trans (congrArg some HT.out)) (by simp)
                    · replace c91 := Bool.eq_false_iff.mpr c91
                      subst c91
                      have H1 : (some false) = some r := by rw [if_neg (show ¬ (false = true) by decide)] at H; exact H
                      clear H
                      have H := H1
                      clear H1
                      exact absurd (H.trans (congrArg some HT.out)) (by simp)

end Go.Proofs.Ytkdpjgcimnchlaa.P
