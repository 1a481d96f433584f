/- Part 2 of the walk. -/
import Derived.Test.YtgphefohdbgokaaCTells01
import Derived.Lib.SliceRun
import Derived.Lib.Overlaps
import Derived.Lib.AppendZerosOnto
import Derived.Laws.CopyRow
import Derived.Laws.CopyOwn
import Derived.Laws.Externs
import Derived.Deep.RegionLaw
import Derived.ProofKit
import Derived.OpenShut
import Derived.ShutString
import Derived.ChangeOld
import Derived.SizedLaws
import Derived.Deep.Slices
import Derived.ChangeArms
import Derived.Shelf.Sort.Plain
import Derived.Sort.OwnSortedInts
import Derived.Test.YtgphefohdbgokaaProg
import Derived.Maps.OwnSet
import Derived.Maps.Views
section
set_option linter.unusedVariables false
set_option linter.unusedSimpArgs false
namespace Go.Proofs.YtgphefohdbgokaaW.PrintMore
open Go.RowKit Go.Proofs.YtgphefohdbgokaaW.PrintWords Go.Proofs.YtgphefohdbgokaaW.PrintLast
variable {P : Program}
theorem x_row_of_cells {α : Type} (d : Kd α) (e : Nat) (W : World) (base : Nat) (ok : Nat → Prop) (g cap : Nat) (cur : Array Value) (xs : List α) (inner : List Value) (hb : base ≤ g) (hh : W.heap[g]? = some (.cells cur e (0, 0))) (hn : xs.length ≤ cap) (hc : cap ≤ maxLen)
    (hs : cur.size = cap * d.sz) (ht : cur.toList.take (xs.length * d.sz) = inner) (hr : Reps (d.M W base (fun k => ok k ∧ some k ≠ (Value.slice (some ⟨g, 0, none⟩) xs.length cap).ownBlock)) d.sz xs inner) (hok : ok g) : d.R e W base ok (.slice (some ⟨g, 0, none⟩) xs.length cap) xs := by
  refine ⟨fun k hk => ?_, inner, ⟨hr.1, .inr ⟨g, cap, cur, rfl, hb, hh, hn, hc, hs, ht⟩⟩, hr⟩
  have : g = k := by simpa [Value.ownBlock] using hk
  rw [← this]; exact hok
theorem x_R_scalar {α : Type} (enc : α → Value) (h1 : ∀ x, (enc x).oneCell' = true) (e : Nat) (W : World) (base : Nat) (ok : Nat → Prop) (g : Nat) (xs : List α) (hb : base ≤ g) (hh : W.heap[g]? = some (.cells (xs.map enc).toArray e (0, 0))) (hc : xs.length ≤ maxLen) (hok : ok g) :
    (Kd.scalar enc h1).R e W base ok (.slice (some ⟨g, 0, none⟩) xs.length xs.length) xs := by
  refine x_row_of_cells (Kd.scalar enc h1) e W base ok g xs.length (xs.map enc).toArray xs (xs.map enc) hb hh (Nat.le_refl _) hc (by simp [Kd.scalar]) (by simp only [Kd.scalar, Nat.mul_one]; exact List.take_of_length_le (by simp)) ⟨by simp [Kd.scalar], fun j p hj => ?_⟩ hok
  show _ = [enc p]
  obtain ⟨hl, rfl⟩ := List.getElem?_eq_some_iff.1 hj
  simp only [Kd.scalar, Nat.mul_one]
  rw [List.drop_eq_getElem_cons (by simpa using hl)]
  simp
theorem x_copy_fresh {α : Type} (enc : α → Value) (d : α) (h1 : ∀ x, (enc x).oneCell' = true) (W : World) (dT sT ty elem e : TypeId) (hu : P.underlying dT = some (.slice elem)) (hs : (P.info? elem).map (·.size) = some 1)
    (A : Option Addr) (n c : Nat) (mc : Array Value) (hmc : mc.size = n) (xs : List α) (hr : (Kd.scalar enc h1).C (W.alloc (.cells mc e)) A n xs) :
    (Builtin.copy_ #[dT, sT] ty #[.slice (some ⟨W.heap.size, 0, none⟩) n n, .slice A n c]).run P (W.alloc (.cells mc e)) = .ok (goInt n) (W.alloc (.cells (xs.map enc).toArray e)) := by
  have hr' := Kd.reads_of_C (d := d) hr
  rcases Nat.eq_zero_or_pos n with h0 | h0
  · subst h0
    have hx : xs = [] := List.eq_nil_of_length_eq_zero hr'.1
    have hm : mc = #[] := Array.eq_empty_of_size_eq_zero hmc
    subst hx; subst hm
    rw [run_copy_none (P := P) _ dT sT ty elem _ _ 0 0 0 c hu hs (by simp)]
    rfl
  · obtain ⟨ad, rfl, hc⟩ := hr'.2.2 h0
    have hg : (W.alloc (.cells mc e)).heap[W.heap.size]? = some (.cells mc e (0, 0)) := by show (W.heap.push _)[W.heap.size]? = _; simp
    have h := run_copy_row (P := P) (W.alloc (.cells mc e)) dT sT ty elem W.heap.size 0 n n ad n c mc e (xs.map enc) hu hs hg (by simp [hr'.1]) (fun j v hj => by
      rw [List.getElem?_map] at hj
      cases hq : xs[j]? with
      | none => rw [hq] at hj; cases hj
      | some y =>
        rw [hq] at hj
        obtain ⟨hl, hy⟩ := List.getElem?_eq_some_iff.1 hq
        have h2 := hc j (by have := hr'.1; omega)
        rw [List.getD_eq_getElem?_getD, hq] at h2
        simp only [Option.map_some, Option.some.injEq] at hj
        rw [← hj]
        exact h2) (by simp [hr'.1]; omega) (fun v hv => by
      obtain ⟨x, _, rfl⟩ := List.mem_map.1 hv
      exact h1 x)
    rw [h]
    have hl : (xs.map enc).length = n := by simp [hr'.1]
    have hd : mc.toList.drop (0 + (xs.map enc).length) = [] := by rw [List.drop_eq_nil_iff]; simp [hr'.1, hmc]
    rw [hd, hl]
    have hq : (W.alloc (.cells mc e)).setRow W.heap.size (xs.map enc).toArray = W.alloc (.cells (xs.map enc).toArray e) := by
      show ({ W with heap := _ } : World) = { W with heap := _ }
      congr 1
      show (W.heap.push _).modify W.heap.size _ = W.heap.push _
      apply Array.ext_getElem?
      intro i
      rw [Array.getElem?_modify]
      simp only [Array.getElem?_push]
      by_cases hi : W.heap.size = i
      · subst hi; simp
      · have hi2 : ¬ i = W.heap.size := fun h => hi h.symm
        simp [hi, hi2]
    simpa using congrArg (fun w' => Result.ok (goInt n) w') hq
theorem x_alloc_new (w : World) (o : Obj) : (w.alloc o).heap[w.heap.size]? = some o := by
  show (w.heap.push o)[w.heap.size]? = some o
  simp
end Go.Proofs.YtgphefohdbgokaaW.PrintMore
end
section
set_option linter.unusedVariables false
set_option linter.unusedSimpArgs false
namespace Go.Proofs.YtgphefohdbgokaaW.PrintMore
open Go.RowKit Go.Proofs.YtgphefohdbgokaaW.PrintWords Go.Proofs.YtgphefohdbgokaaW.PrintLast Go.ChangeShapes Go.WideShapes Go.ChangeAt
variable {P : Program} {α : Type}
def Opens (P : Program) (t : TypeId) (d : Kd α) (B : α → Prop) : Prop :=
  ∀ {H : Type} (enc : TypeId × Value → H) (w : World) (base : Nat) (spare : Nat → Bool) (held : Bool) (fuel : Nat) (cs : List Value) (x : DataW H × List MemPlace),
    DataW.trod enc P w base spare held fuel t cs = some x → ∃ y : α, d.K w y cs ∧ B y
theorem Opens.int {t : TypeId} {k : IntKind} (ht : P.underlying t = some (.int k)) : Opens P t (Kd.int k) (fun y => (Lit.int k y).wf = true) := by
  intro H enc w base spare held fuel cs x h
  obtain ⟨n, rfl, _, hw⟩ := DataW.trod_int ht h
  exact ⟨n, rfl, hw⟩
theorem Opens.string {t : TypeId} (ht : P.underlying t = some .string) : Opens P t Kd.string (fun s => s.size ≤ maxLen) := by
  intro H enc w base spare held fuel cs x h
  obtain ⟨n, rfl, _, hs⟩ := DataW.trod_string ht h
  exact ⟨n, rfl, hs⟩
theorem Opens.slice {t e : TypeId} {d : Kd α} {B : α → Prop} (hd : Opens P e d B) (ht : P.underlying t = some (.slice e)) (hc : P.cellsOf e = d.sz) : Opens P t (Kd.slice e d) (fun xs => ∀ y ∈ xs, B y) := by
  intro H enc w base spare held fuel cs x h
  rcases Go.Deep.open_slice ht h with ⟨rfl, _⟩ | ⟨a, len, cap, m, n, D, Pl, rfl, hb, hl, hm, hmm, _, hx⟩
  · exact ⟨[], ⟨none, 0, rfl, Nat.le_refl _, Kd.C_nil d w⟩, by simp⟩
  · have hlm : len ≤ m := by rw [hmm]; split <;> omega
    have hy : ∀ i : Fin len, ∃ y : α, ∃ cs', w.cells? base (a.add (i.1 * P.cellsOf e)) (P.cellsOf e) = some cs' ∧ d.K w y cs' ∧ B y := fun i => by
      obtain ⟨cs', h1, h2⟩ := hx i.1 (by omega)
      obtain ⟨y, hK, hB⟩ := hd enc w base spare held n cs' _ h2
      exact ⟨y, cs', h1, hK, hB⟩
    refine ⟨List.ofFn fun i => Classical.choose (hy i), ⟨some a, cap, by simp, by simpa using hl, by simp, by simp only [List.length_ofFn]; unfold maxLen at hm; omega, fun _ => ⟨a, rfl, fun j p hj => ?_⟩⟩, fun y hy' => ?_⟩
    · obtain ⟨hjl, hp⟩ := List.getElem?_eq_some_iff.1 hj
      have hjl' : j < len := by simpa using hjl
      obtain ⟨cs', h1, hK, _⟩ := Classical.choose_spec (hy ⟨j, hjl'⟩)
      have hp' : Classical.choose (hy ⟨j, hjl'⟩) = p := by rw [← hp]; simp
      rw [hp'] at hK
      obtain ⟨_, hlen, hcell⟩ := World.cells?_some h1
      refine ⟨cs', by rw [hlen, hc], hK, fun i u hu => ?_⟩
      have hi : i < cs'.length := (List.getElem?_eq_some_iff.1 hu).1
      have h3 := hcell i (by omega)
      rw [Go.Deep.add_add, hc] at h3
      rw [h3, hu]
    · obtain ⟨i, hi⟩ := (List.mem_ofFn).1 hy'
      obtain ⟨cs', h1, _, hB⟩ := Classical.choose_spec (hy i)
      rw [← hi]
      exact hB
theorem Opens.sized {t e : TypeId} {d : Kd α} {B : List α → Prop} (hd : Opens P t (Kd.slice e d) B) : Opens P t (Kd.slice e d) (fun xs => xs.length ≤ 9223372036854775807 ∧ B xs) := by
  intro H enc w base spare held fuel cs x h
  obtain ⟨xs, hK, hB⟩ := hd enc w base spare held fuel cs x h
  obtain ⟨A, c, hcs, hl, hC⟩ := hK
  exact ⟨xs, ⟨A, c, hcs, hl, hC⟩, hC.2.1, hB⟩
theorem Opens.arg_slice {H : Type} {enc : TypeId × Value → H} {t e : TypeId} {d : Kd α} {B : List α → Prop} (hd : Opens P t (Kd.slice e d) B) (ht : P.underlying t = some (.slice e)) {w : World} {base b0 : Nat} {r : Reach} {spare : Nat → Bool} {held : Bool} {v : Value} {y : DataW H} {ps : List MemPlace}
    (hv : Value.okWide P w r b0 t v) (h : DataW.Trod enc P w base spare held t v y ps) : ∃ A c xs, v = .slice A xs.length c ∧ xs.length ≤ c ∧ d.C w A xs.length xs ∧ B xs := by
  obtain ⟨a, len, cap, rfl⟩ := okWide_slice ht hv
  obtain ⟨fuel, hf⟩ := h
  obtain ⟨xs, ⟨A, c, hcs, hl, hC⟩, hB⟩ := hd enc w base spare held fuel _ _ hf
  have hcs' : [Value.slice a len cap] = [Value.slice A xs.length c] := by simpa [Value.cells] using hcs
  injection hcs' with hcs' _
  exact ⟨A, c, xs, hcs', hl, hC, hB⟩
theorem Opens.arg_struct {H : Type} {enc : TypeId × Value → H} {t : TypeId} {fs : Array Field} {d : Kd α} {B : α → Prop} (hd : Opens P t d B) (ht : P.underlying t = some (.struct fs)) {w : World} {base b0 : Nat} {r : Reach} {spare : Nat → Bool} {held : Bool} {v : Value} {y : DataW H} {ps : List MemPlace}
    (hv : Value.okWide P w r b0 t v) (h : DataW.Trod enc P w base spare held t v y ps) : ∃ cs x, v = .agg (List.toArray cs) ∧ d.K w x cs ∧ B x := by
  obtain ⟨cs, rfl, hsz⟩ := okWide_struct ht hv
  obtain ⟨fuel, hf⟩ := h
  obtain ⟨x, hK, hB⟩ := hd enc w base spare held fuel _ _ hf
  refine ⟨cs.toList, x, by simp, ?_, hB⟩
  simpa [Value.cells] using hK
theorem x_field {H : Type} {enc : TypeId × Value → H} {w : World} {base : Nat} {spare : Nat → Bool} {held : Bool} {n : Nat} {fs : Array Field} {xs : List (DataW H × List MemPlace)} {cs : List Value} (hx : xs.length = fs.size)
    (hf : ∀ (i : Nat) (f : Field), fs[i]? = some f → DataW.trod enc P w base spare held n f.type ((cs.drop f.offset).take (P.cellsOf f.type)) = xs[i]?) (i : Nat) (f : Field) (h : fs[i]? = some f) :
    ∃ x, DataW.trod enc P w base spare held n f.type ((cs.drop f.offset).take (P.cellsOf f.type)) = some x := by
  have hi : i < xs.length := by
    rw [hx]
    rcases Nat.lt_or_ge i fs.size with h' | h'
    · exact h'
    · rw [Array.getElem?_eq_none h'] at h; cases h
  exact ⟨xs[i], (hf i f h).trans (List.getElem?_eq_getElem hi)⟩
theorem Opens.field {H : Type} {t : TypeId} {d : Kd α} {B : α → Prop} (hd : Opens P t d B) {enc : TypeId × Value → H} {w : World} {base : Nat} {spare : Nat → Bool} {held : Bool} {n : Nat} {cs : List Value} {x : DataW H × List MemPlace} (h : DataW.trod enc P w base spare held n t cs = some x) : ∃ y, d.K w y cs ∧ B y := hd enc w base spare held n cs x h
end Go.Proofs.YtgphefohdbgokaaW.PrintMore
end
section
namespace Go.Proofs.Ytgphefohdbgokaa.Shelf
open Go.Shelf Go.Proofs
def lays189_ren : Go.Shelf.Ren := ⟨fun | 189 => 34 | 125 => 37 | 257 => 36 | 128 => 48 | 129 => 49 | 294 => 39 | 295 => 40 | 296 => 41 | 297 => 42 | 298 => 43 | 299 => 44 | 216 => 45 | 300 => 46 | 301 => 47 | 328 => 50 | 329 => 51 | 330 => 52 | 331 => 53 | 332 => 54 | 215 => 55 | 343 => 56 | n => n, fun | 28 => 33 | 3 => 3 | 46 => 58 | 0 => 0 | 51 => 68 | 53 => 70 | 4 => 4 | 183 => 62 | 182 => 61 | 131 => 40 | 5 => 5 | 9 => 9 | 218 => 71 | 222 => 75 | 228 => 78 | 229 => 79 | n => n, fun | n => n⟩
theorem lays189 : Go.Proofs.Lays.n189 Try.prog lays189_ren := {
  mixed := by kernel_rfl
  f125 := Try.func37.trans (congrArg some (by kernel_rfl))
  f128 := Try.func48.trans (congrArg some (by kernel_rfl))
  f129 := Try.func49.trans (congrArg some (by kernel_rfl))
  f189 := Try.func34.trans (congrArg some (by kernel_rfl))
  f215 := Try.func55.trans (congrArg some (by kernel_rfl))
  f216 := Try.func45.trans (congrArg some (by kernel_rfl))
  f257 := Try.func36.trans (congrArg some (by kernel_rfl))
  f294 := Try.func39.trans (congrArg some (by kernel_rfl))
  f295 := Try.func40.trans (congrArg some (by kernel_rfl))
  f296 := Try.func41.trans (congrArg some (by kernel_rfl))
  f297 := Try.func42.trans (congrArg some (by kernel_rfl))
  f298 := Try.func43.trans (congrArg some (by kernel_rfl))
  f299 := Try.func44.trans (congrArg some (by kernel_rfl))
  f300 := Try.func46.trans (congrArg some (by kernel_rfl))
  f301 := Try.func47.trans (congrArg some (by kernel_rfl))
  f328 := Try.func50.trans (congrArg some (by kernel_rfl))
  f329 := Try.func51.trans (congrArg some (by kernel_rfl))
  f330 := Try.func52.trans (congrArg some (by kernel_rfl))
  f331 := Try.func53.trans (congrArg some (by kernel_rfl))
  f332 := Try.func54.trans (congrArg some (by kernel_rfl))
  f343 := Try.func56.trans (congrArg some (by kernel_rfl))
  t0 := Try.underlying0
  a0 := Try.isAgg0
  z0 := Try.sizeOf0
  v0 := Try.zeroValue0
  t3 := Try.underlying3
  a3 := Try.isAgg3
  z3 := Try.sizeOf3
  v3 := Try.zeroValue3
  t4 := Try.underlying4
  a4 := Try.isAgg4
  z4 := Try.sizeOf4
  v4 := Try.zeroValue4
  t5 := Try.underlying5
  a5 := Try.isAgg5
  z5 := Try.sizeOf5
  v5 := Try.zeroValue5
  t9 := Try.underlying9
  a9 := Try.isAgg9
  z9 := Try.sizeOf9
  v9 := Try.zeroValue9
  t28 := Try.underlying33
  a28 := Try.isAgg33
  z28 := Try.sizeOf33
  v28 := Try.zeroValue33
  t46 := Try.underlying58
  a46 := Try.isAgg58
  z46 := Try.sizeOf58
  v46 := Try.zeroValue58
  t51 := Try.underlying68
  a51 := Try.isAgg68
  z51 := Try.sizeOf68
  v51 := Try.zeroValue68
  t53 := Try.underlying70
  a53 := Try.isAgg70
  z53 := Try.sizeOf70
  v53 := Try.zeroValue70
  t131 := Try.underlying40
  a131 := Try.isAgg40
  z131 := Try.sizeOf40
  v131 := Try.zeroValue40
  t182 := Try.underlying61
  a182 := Try.isAgg61
  z182 := Try.sizeOf61
  v182 := Try.zeroValue61
  t183 := Try.underlying62
  a183 := Try.isAgg62
  z183 := Try.sizeOf62
  v183 := Try.zeroValue62
  t218 := Try.underlying71
  a218 := Try.isAgg71
  z218 := Try.sizeOf71
  v218 := Try.zeroValue71
  t222 := Try.underlying75
  a222 := Try.isAgg75
  z222 := Try.sizeOf75
  v222 := Try.zeroValue75
  t228 := Try.underlying78
  a228 := Try.isAgg78
  z228 := Try.sizeOf78
  v228 := Try.zeroValue78
  t229 := Try.underlying79
  a229 := Try.isAgg79
  z229 := Try.sizeOf79
  v229 := Try.zeroValue79 }
open Go.Sort Go.RowKit in
theorem slices_Sort_int (blk off cap : Nat) (zs : List Int) (w : World) (hH : Holds (Value.int .i64) w blk off zs.toArray) (hblk : blk < w.heap.size) (hsz : zs.length < 4611686018427387904) :
    Calls Try.prog 34 #[.slice (some ⟨blk, off, none⟩) zs.length cap] w fun e w' =>
      e = .returned (.tuple #[]) ∧ ∃ n os, w' = grow (putRow (Value.int .i64) (Sort.ahead w n) blk off (zs.mergeSort fun x y => decide (x ≤ y)).toArray) os := Any.slices_Sort_int lays189 blk off cap zs w hH hblk hsz
end Go.Proofs.Ytgphefohdbgokaa.Shelf
end
section
namespace Go.Proofs.Ytgphefohdbgokaa.P
open Go.RowKit Go.Proofs.YtgphefohdbgokaaW.PrintWords Go.Proofs.YtgphefohdbgokaaW.PrintLast Go.Proofs.YtgphefohdbgokaaW.PrintMore
attribute [local go_sem] max2_int min2_int max_two min_two max_three min_three max_four min_four   -- for this text's walks alone
set_option linter.unusedVariables false
set_option linter.unusedSimpArgs false
def errW : Option Int → Value
  | none => .nilIface
  | some c => .iface 0 (.int .i64 c)
theorem errW_none : errW none = .nilIface := rfl
theorem errW_some (c : Int) : errW (some c) = .iface 0 (.int .i64 c) := rfl
theorem info3 : (Try.prog.info? 3).map (fun i => (i.zero, i.size, i.bytes)) = some (some (.int .i64 0), 1, 8) := by kernel_rfl
theorem info9 : (Try.prog.info? 9).map (fun i => (i.zero, i.size, i.bytes)) = some (some (.string ⟨#[]⟩), 1, 16) := by kernel_rfl
theorem info29 : (Try.prog.info? 29).map (fun i => (i.zero, i.size, i.bytes)) = some (some (.agg #[(.int .i64 0), (.int .i64 0), (.int .i64 0), (.slice none 0 0)]), 4, 48) := by kernel_rfl
structure S29 where
  f0 : Int
  f1 : Int
  f2 : Int
  f3 : (List ByteArray)
def z29 : S29 := ⟨(0 : Int), (0 : Int), (0 : Int), ([] : List ByteArray)⟩
def k29 : Kd S29 := Kd.iso (Kd.pair (Kd.int .i64) (Kd.pair (Kd.int .i64) (Kd.pair (Kd.int .i64) (Kd.slice 9 Kd.string)))) (fun x : S29 => (x.f0, x.f1, x.f2, x.f3))
theorem k29_open {w : World} {x : S29} {cs : List Value} (h : k29.K w x cs) : ∃ A3 c3, cs = [.int .i64 x.f0, .int .i64 x.f1, .int .i64 x.f2, .slice A3 x.f3.length c3] ∧ x.f3.length ≤ c3 ∧ Kd.string.C w A3 x.f3.length x.f3 := by
  obtain ⟨_, _, rfl, rfl, ⟨_, _, rfl, rfl, ⟨_, _, rfl, rfl, ⟨A3, c3, rfl, l3, g3⟩⟩⟩⟩ := h
  exact ⟨A3, c3, rfl, l3, g3⟩
theorem k29_openM {w : World} {base : Nat} {ok : Nat → Prop} {x : S29} {cs : List Value} (h : k29.M w base ok x cs) : ∃ v3, cs = [.int .i64 x.f0, .int .i64 x.f1, .int .i64 x.f2, v3] ∧ Kd.string.R 9 w base ok v3 x.f3 := by
  obtain ⟨_, _, rfl, rfl, ⟨_, _, rfl, rfl, ⟨_, _, rfl, rfl, ⟨v3, rfl, g3⟩⟩⟩⟩ := h
  exact ⟨v3, rfl, g3⟩
theorem k29_mk (w : World) (x : S29) {A3 : Option Addr} {c3 : Nat} (l3 : x.f3.length ≤ c3) (g3 : Kd.string.C w A3 x.f3.length x.f3) : k29.K w x [.int .i64 x.f0, .int .i64 x.f1, .int .i64 x.f2, .slice A3 x.f3.length c3] := ⟨[.int .i64 x.f0], [.int .i64 x.f1, .int .i64 x.f2, .slice A3 x.f3.length c3], rfl, rfl, ⟨[.int .i64 x.f1], [.int .i64 x.f2, .slice A3 x.f3.length c3], rfl, rfl, ⟨[.int .i64 x.f2], [.slice A3 x.f3.length c3], rfl, rfl, ⟨A3, c3, rfl, l3, g3⟩⟩⟩⟩
theorem k29_mkM (w : World) (base : Nat) (ok : Nat → Prop) (x : S29) {v3 : Value} (g3 : Kd.string.R 9 w base ok v3 x.f3) : k29.M w base ok x [.int .i64 x.f0, .int .i64 x.f1, .int .i64 x.f2, v3] := ⟨[.int .i64 x.f0], [.int .i64 x.f1, .int .i64 x.f2, v3], rfl, rfl, ⟨[.int .i64 x.f1], [.int .i64 x.f2, v3], rfl, rfl, ⟨[.int .i64 x.f2], [v3], rfl, rfl, ⟨v3, rfl, g3⟩⟩⟩⟩
theorem k29_mkF (W : World) (ok : Nat → Prop) (x : S29) {A3 : Option Addr} {c3 : Nat} (l3 : x.f3.length ≤ c3) (g3 : Kd.F Kd.string W ok A3 x.f3.length x.f3) : Kd.FK k29 W ok x [.int .i64 x.f0, .int .i64 x.f1, .int .i64 x.f2, .slice A3 x.f3.length c3] := fun W2 hW => k29_mk W2 x l3 (g3 W2 hW)
def rd_T29 (xs : List S29) (i : Int) : S29 := xs.getD i.toNat z29
theorem at_T29 {w : World} {A : Option Addr} {n : Nat} {xs : List S29} (h : Kd.C k29 w A n xs) (i : Int) (h0 : 0 ≤ i) (h1 : i < n) : ∃ ad A3 c3, A = some ad ∧ w.cell? (ad.add (i.toNat * 4)) = some (.int .i64 (rd_T29 xs i).f0) ∧ w.cell? ⟨(ad.add (i.toNat * 4)).block, (ad.add (i.toNat * 4)).off + 1, none⟩ = some (.int .i64 (rd_T29 xs i).f1) ∧ w.cell? ⟨(ad.add (i.toNat * 4)).block, (ad.add (i.toNat * 4)).off + 2, none⟩ = some (.int .i64 (rd_T29 xs i).f2) ∧ w.cell? ⟨(ad.add (i.toNat * 4)).block, (ad.add (i.toNat * 4)).off + 3, none⟩ = some (.slice A3 (rd_T29 xs i).f3.length c3) ∧ (rd_T29 xs i).f3.length ≤ c3 ∧ Kd.string.C w A3 (rd_T29 xs i).f3.length (rd_T29 xs i).f3 := by
  obtain ⟨ad, c, e, _, hK, hc0⟩ := Kd.C_get h z29 i h0 h1
  have hc : ∀ j u, c[j]? = some u → w.cell? (ad.add (i.toNat * 4 + j)) = some u := hc0
  obtain ⟨A3, c3, rfl, l3, g3⟩ := k29_open hK
  exact ⟨ad, A3, c3, e, hc 0 _ rfl, by rw [← add_field _ _ 1 (by omega)]; exact hc 1 _ rfl, by rw [← add_field _ _ 2 (by omega)]; exact hc 2 _ rfl, by rw [← add_field _ _ 3 (by omega)]; exact hc 3 _ rfl, l3, g3⟩
end Go.Proofs.Ytgphefohdbgokaa.P
end
section
namespace Go.Proofs.Ytgphefohdbgokaa.P
open Go.RowKit Go.Proofs.YtgphefohdbgokaaW.PrintWords Go.Proofs.YtgphefohdbgokaaW.PrintLast Go.Proofs.YtgphefohdbgokaaW.PrintMore
attribute [local go_sem] max2_int min2_int max_two min_two max_three min_three max_four min_four   -- for this text's walks alone
set_option linter.unusedVariables false
set_option linter.unusedSimpArgs false
theorem opens9 : Opens Try.prog 9 Kd.string (fun s => s.size ≤ maxLen) := Opens.string Try.underlying9
theorem opens22 : Opens Try.prog 22 (Kd.slice 9 Kd.string) (fun y => (y.length ≤ 9223372036854775807 ∧ ∀ y1 ∈ y, y1.size ≤ maxLen)) := Opens.sized (Opens.slice opens9 Try.underlying22 rfl)
theorem opens3 : Opens Try.prog 3 (Kd.int .i64) (fun y => (Lit.int .i64 y).wf = true) := Opens.int Try.underlying3
def B29 (x : S29) : Prop := (Lit.int .i64 x.f0).wf = true ∧ (Lit.int .i64 x.f1).wf = true ∧ (Lit.int .i64 x.f2).wf = true ∧ (x.f3.length ≤ 9223372036854775807 ∧ ∀ y0 ∈ x.f3, y0.size ≤ maxLen)
theorem opens29 : Opens Try.prog 29 k29 B29 := by
  intro H enc w base spare held fuel cs x h
  obtain ⟨xs, n, _, _, hl, hxs, hf⟩ := DataW.trod_struct Try.underlying29 h
  have hl : cs.length = 4 := hl
  obtain ⟨_, h0⟩ := x_field hxs hf 0 _ rfl
  obtain ⟨_, h1⟩ := x_field hxs hf 1 _ rfl
  obtain ⟨_, h2⟩ := x_field hxs hf 2 _ rfl
  obtain ⟨_, h3⟩ := x_field hxs hf 3 _ rfl
  obtain ⟨y0, k0, b0⟩ := opens3.field h0
  obtain ⟨y1, k1, b1⟩ := opens3.field h1
  obtain ⟨y2, k2, b2⟩ := opens3.field h2
  obtain ⟨y3, k3, b3⟩ := opens22.field h3
  refine ⟨⟨y0, y1, y2, y3⟩, ⟨_, _, ?_, k0, ⟨_, _, rfl, k1, ⟨_, _, rfl, k2, k3⟩⟩⟩, b0, b1, b2, b3⟩
  show cs = (cs.drop 0).take 1 ++ ((cs.drop 1).take 1 ++ ((cs.drop 2).take 1 ++ ((cs.drop 3).take 1)))
  match cs, hl with
  | [c0, c1, c2, c3], _ => rfl
theorem opens26 : Opens Try.prog 26 (Kd.slice 29 k29) (fun y => (y.length ≤ 9223372036854775807 ∧ ∀ y1 ∈ y, B29 y1)) := Opens.sized (Opens.slice opens29 Try.underlying26 rfl)
theorem opens33 : Opens Try.prog 33 (Kd.slice 3 (Kd.int .i64)) (fun y => (y.length ≤ 9223372036854775807 ∧ ∀ y1 ∈ y, (Lit.int .i64 y1).wf = true)) := Opens.sized (Opens.slice opens3 Try.underlying33 rfl)
end Go.Proofs.Ytgphefohdbgokaa.P
end
section
namespace Go.Proofs.Ytgphefohdbgokaa.P
open Go.RowKit Go.Proofs.YtgphefohdbgokaaW.PrintWords Go.Proofs.YtgphefohdbgokaaW.PrintLast Go.Proofs.YtgphefohdbgokaaW.PrintMore
attribute [local go_sem] max2_int min2_int max_two min_two max_three min_three max_four min_four   -- for this text's walks alone
set_option linter.unusedVariables false
set_option linter.unusedSimpArgs false
def slices_Equal_string_string.l0 : Nat → List ByteArray → List ByteArray → Int → Int → Option (Bool)
  | 0, _, _, _, _ => none
  | k + 1, x0, x1, x12, x13 => if x13 < x12 then (if 0 ≤ x13 then (if x13 < (x0.length : Int) then (if x13 < (x1.length : Int) then (if (rdOf ByteArray.empty x0 x13).toList = (rdOf ByteArray.empty x1 x13).toList then (slices_Equal_string_string.l0 k x0 x1 x12 (wrap64 (x13 + 1))) else (some false)) else (none)) else (none)) else (none)) else (some true)
def slices_Equal_string_string.f (k : Nat) (l0 : List ByteArray) (l1 : List ByteArray) : Option (Bool) := if (l0.length : Int) = (l1.length : Int) then (slices_Equal_string_string.l0 k l0 l1 (l0.length : Int) 0) else (some false)
theorem slices_Equal_string_string.mono_l : ∀ k, (∀ y0 y1 y2 y3, LeO (slices_Equal_string_string.l0 k y0 y1 y2 y3) (slices_Equal_string_string.l0 (k + 1) y0 y1 y2 y3))
  | 0 => fun _ _ _ _ r h => by simp [slices_Equal_string_string.l0] at h
  | k + 1 => by
    have ih0 := slices_Equal_string_string.mono_l k
    · intro y0 y1 y2 y3
      unfold slices_Equal_string_string.l0
      repeat' first
      | (with_reducible exact ih0 _ _ _ _)
      | (with_reducible exact LeO.refl _)
      | (with_reducible exact LeO.none _)
      | (with_reducible refine LeO.ite ?_ ?_)
      | (with_reducible refine LeO.bind ?_ (fun _ => ?_))
      | exact ih0 _ _ _ _
      | exact LeO.none _
      | refine LeO.ite ?_ ?_
      | refine LeO.bind ?_ (fun _ => ?_)
theorem slices_Equal_string_string.mono : ∀ a0 a1 k, LeO (slices_Equal_string_string.f k a0 a1) (slices_Equal_string_string.f (k + 1) a0 a1) := by
  intro a0 a1 k
  have ih0 := slices_Equal_string_string.mono_l k
  unfold slices_Equal_string_string.f
  repeat' first
      | (with_reducible exact ih0 _ _ _ _)
      | (with_reducible exact LeO.refl _)
      | (with_reducible exact LeO.none _)
      | (with_reducible refine LeO.ite ?_ ?_)
      | (with_reducible refine LeO.bind ?_ (fun _ => ?_))
      | exact ih0 _ _ _ _
      | exact LeO.none _
      | refine LeO.ite ?_ ?_
      | refine LeO.bind ?_ (fun _ => ?_)
set_option maxHeartbeats 8000000 in
set_option maxRecDepth 100000 in
theorem slices_Equal_string_string.calls (k : Nat) (A0 : Option Addr) (c0 : Nat) (l0 : List ByteArray) (A1 : Option Addr) (c1 : Nat) (l1 : List ByteArray) (r : Bool) (w : World) (hr0 : Kd.C Kd.string w A0 l0.length l0) (hc0 : l0.length ≤ c0) (hr1 : Kd.C Kd.string w A1 l1.length l1) (hc1 : l1.length ≤ c1) (h : slices_Equal_string_string.f k l0 l1 = some r) :
    Calls Try.prog 29 #[.slice A0 l0.length c0, .slice A1 l1.length c1] w fun e w' => e = .returned (.bool r) ∧ Drawn0 w w' := by
  have HR0 := Aside0.mk hr0
  have HC0 := Aside0.mk hc0
  clear hr0 hc0
  have HR1 := Aside0.mk hr1
  have HC1 := Aside0.mk hc1
  clear hr1 hc1
  have H : (if (l0.length : Int) = (l1.length : Int) then (slices_Equal_string_string.l0 k l0 l1 (l0.length : Int) 0) else (some false)) = some r := h
  clear h
  by_cases c3 : (l0.length : Int) = (l1.length : Int)
  · rw [if_pos c3] at H
    have c3b0 : ((l0.length : Int) == (l1.length : Int)) = true := beq_iff_eq.mpr c3
    have c3b1 : ((l0.length : Int) != (l1.length : Int)) = false := bne_eq_false_iff_eq.mpr c3
    have c3b2 : (l0.length == l1.length) = true := by first | simpa using c3 | (simp at c3 ⊢; omega)
    clear c3
    have H' := Aside0.mk H
    clear H
    go_enter Try.func29, Try.ntmps29
    go_wp2
    repeat (go_quiet (fail); try go_wp2)
    go_loopg [13] k (fun kq v13 w' => ∃ (x13_1 : Int), v13 = .int .i64 x13_1 ∧ Aside0 (slices_Equal_string_string.l0 kq l0 l1 (l0.length : Int) x13_1 = some r) ∧ Aside0 (kq ≤ k) ∧ Drawn0 w w')
    case atStart => exact ⟨(0), (by first | rfl | (simp; done) | (simp [*]; done)), H', ⟨Nat.le_refl _⟩, by repeat (first | exact Drawn0.refl _ | apply Drawn0.step)⟩
    case round =>
      clear H'
      try clear c1
      try clear c2
      try clear p2
      try clear c3
      try clear c3b0
      try clear c3b1
      try clear c3b2
      obtain ⟨x13_1, rfl, HA, HK1, ⟨m1, rfl⟩⟩ := hrel
      cases gk with
      | zero => exact absurd HA.out (by simp [slices_Equal_string_string.l0])
      | succ k1 =>
        have H := HA.out
        clear HA
        simp only [slices_Equal_string_string.l0] at H
        by_cases c4 : x13_1 < (l0.length : Int)
        · rw [if_pos c4] at H
          have c4b0 : decide (x13_1 < (l0.length : Int)) = true := decide_eq_true c4
          clear c4
          by_cases c5 : 0 ≤ x13_1
          · rw [if_pos c5] at H
            have c5b0 : decide (0 ≤ x13_1) = true := decide_eq_true c5
            clear c5
            by_cases c6 : x13_1 < (l0.length : Int)
            · rw [if_pos c6] at H
              have c6b0 : decide (x13_1 < (l0.length : Int)) = true := decide_eq_true c6
              clear c6
              by_cases c7 : x13_1 < (l1.length : Int)
              · rw [if_pos c7] at H
                have c7b0 : decide (x13_1 < (l1.length : Int)) = true := decide_eq_true c7
                clear c7
                by_cases c8 : (rdOf ByteArray.empty l0 x13_1).toList = (rdOf ByteArray.empty l1 x13_1).toList
                · rw [if_pos c8] at H
                  have c8b0 : ((rdOf ByteArray.empty l0 x13_1).toList == (rdOf ByteArray.empty l1 x13_1).toList) = true := beq_iff_eq.mpr c8
                  have c8b1 : ((rdOf ByteArray.empty l0 x13_1).toList != (rdOf ByteArray.empty l1 x13_1).toList) = false := bne_eq_false_iff_eq.mpr c8
                  clear c8
                  have H' := Aside0.mk H
                  clear H
                  have p101 : 0 ≤ (x13_1 : Int) := of_decide_eq_true (by first | (with_reducible assumption) | assumption)
                  have q101 : x13_1 < (l0.length : Int) := of_decide_eq_true (by first | (with_reducible assumption) | assumption)
                  obtain ⟨ad101, e101, hx101_0⟩ := Kd.at_string HR0.out x13_1 p101 q101
                  cases e101
                  replace p101 := eq_true p101
                  replace q101 := eq_true q101
                  have p102 : 0 ≤ (x13_1 : Int) := of_decide_eq_true (by first | (with_reducible assumption) | assumption)
                  have q102 : x13_1 < (l1.length : Int) := of_decide_eq_true (by first | (with_reducible assumption) | assumption)
                  obtain ⟨ad102, e102, hx102_0⟩ := Kd.at_string HR1.out x13_1 p102 q102
                  cases e102
                  replace p102 := eq_true p102
                  replace q102 := eq_true q102
                  go_wp2
                  repeat (go_quiet (fail); try go_wp2)
                  go_roundg k1
                  case measure => have := HK1.out; omega
                  case rel => exact ⟨(wrap64 (x13_1 + 1)), (by first | rfl | (simp; done) | (simp [*]; done)), H', ⟨by have := HK1.out; omega⟩, by repeat (first | exact Drawn0.refl _ | apply Drawn0.step)⟩
                · rw [if_neg c8] at H
                  have c8b0 : ((rdOf ByteArray.empty l0 x13_1).toList == (rdOf ByteArray.empty l1 x13_1).toList) = false := beq_eq_false_iff_ne.mpr c8
                  have c8b1 : ((rdOf ByteArray.empty l0 x13_1).toList != (rdOf ByteArray.empty l1 x13_1).toList) = true := bne_iff_ne.mpr c8
                  obtain rfl := Option.some.inj H
                  have p101 : 0 ≤ (x13_1 : Int) := of_decide_eq_true (by first | (with_reducible assumption) | assumption)
                  have q101 : x13_1 < (l0.length : Int) := of_decide_eq_true (by first | (with_reducible assumption) | assumption)
                  obtain ⟨ad101, e101, hx101_0⟩ := Kd.at_string HR0.out x13_1 p101 q101
                  cases e101
                  replace p101 := eq_true p101
                  replace q101 := eq_true q101
                  have p102 : 0 ≤ (x13_1 : Int) := of_decide_eq_true (by first | (with_reducible assumption) | assumption)
                  have q102 : x13_1 < (l1.length : Int) := of_decide_eq_true (by first | (with_reducible assumption) | assumption)
                  obtain ⟨ad102, e102, hx102_0⟩ := Kd.at_string HR1.out x13_1 p102 q102
                  cases e102
                  replace p102 := eq_true p102
                  replace q102 := eq_true q102
                  go_wp2
                  repeat (go_quiet (fail); try go_wp2)
                  go_ret
                  exact ⟨by first | rfl | (simp; done) | (simp [*]; done), by repeat (first | exact Drawn0.refl _ | apply Drawn0.step)⟩
              · rw [if_neg c7] at H
                exact absurd H (by simp)
            · rw [if_neg c6] at H
              exact absurd H (by simp)
          · rw [if_neg c5] at H
            exact absurd H (by simp)
        · rw [if_neg c4] at H
          have c4b0 : decide (x13_1 < (l0.length : Int)) = false := decide_eq_false c4
          clear c4
          obtain rfl := Option.some.inj H
          go_wp2
          repeat (go_quiet (fail); try go_wp2)
          go_ret
          exact ⟨by first | rfl | (simp; done) | (simp [*]; done), by repeat (first | exact Drawn0.refl _ | apply Drawn0.step)⟩
  · rw [if_neg c3] at H
    have c3b0 : ((l0.length : Int) == (l1.length : Int)) = false := beq_eq_false_iff_ne.mpr c3
    have c3b1 : ((l0.length : Int) != (l1.length : Int)) = true := bne_iff_ne.mpr c3
    have c3b2 : (l0.length == l1.length) = false := by first | simpa using c3 | (simp at c3 ⊢; omega)
    obtain rfl := Option.some.inj H
    go_enter Try.func29, Try.ntmps29
    go_wp2
    repeat (go_quiet (fail); try go_wp2)
    go_ret
    exact ⟨by first | rfl | (simp; done) | (simp [*]; done), by repeat (first | exact Drawn0.refl _ | apply Drawn0.step)⟩
def quorum_Front.f (k : Nat) (l0 : List ByteArray) (l1 : List ByteArray) : Option (Bool) := if (l0.length : Int) ≤ (l1.length : Int) then (if 0 ≤ (l0.length : Int) then ((slices_Equal_string_string.f k l0 (l1.take ((l0.length : Int) : Int).toNat)).bind fun t104 => (some t104)) else (none)) else (some false)
theorem quorum_Front.mono : ∀ a0 a1 k, LeO (quorum_Front.f k a0 a1) (quorum_Front.f (k + 1) a0 a1) := by
  intro a0 a1 k
  unfold quorum_Front.f
  repeat' first
      | (with_reducible exact slices_Equal_string_string.mono _ _ _)
      | (with_reducible exact LeO.refl _)
      | (with_reducible exact LeO.none _)
      | (with_reducible refine LeO.ite ?_ ?_)
      | (with_reducible refine LeO.bind ?_ (fun _ => ?_))
      | exact slices_Equal_string_string.mono _ _ _
      | exact LeO.none _
      | refine LeO.ite ?_ ?_
      | refine LeO.bind ?_ (fun _ => ?_)
set_option maxHeartbeats 8000000 in
set_option maxRecDepth 100000 in
theorem quorum_Front.calls (k : Nat) (A0 : Option Addr) (c0 : Nat) (l0 : List ByteArray) (A1 : Option Addr) (c1 : Nat) (l1 : List ByteArray) (r : Bool) (w : World) (hr0 : Kd.C Kd.string w A0 l0.length l0) (hc0 : l0.length ≤ c0) (hr1 : Kd.C Kd.string w A1 l1.length l1) (hc1 : l1.length ≤ c1) (h : quorum_Front.f k l0 l1 = some r) :
    Calls Try.prog 8 #[.slice A0 l0.length c0, .slice A1 l1.length c1] w fun e w' => e = .returned (.bool r) ∧ Drawn0 w w' := by
  have HR0 := Aside0.mk hr0
  have HC0 := Aside0.mk hc0
  clear hr0 hc0
  have HR1 := Aside0.mk hr1
  have HC1 := Aside0.mk hc1
  clear hr1 hc1
  have H : (if (l0.length : Int) ≤ (l1.length : Int) then (if 0 ≤ (l0.length : Int) then ((slices_Equal_string_string.f k l0 (l1.take ((l0.length : Int) : Int).toNat)).bind fun t104 => (some t104)) else (none)) else (some false)) = some r := h
  clear h
  by_cases c3 : (l0.length : Int) ≤ (l1.length : Int)
  · rw [if_pos c3] at H
    have c3b0 : decide ((l0.length : Int) ≤ (l1.length : Int)) = true := decide_eq_true c3
    have c3b1 : decide (l0.length ≤ l1.length) = true := decide_eq_true (Int.ofNat_le.mp c3)
    clear c3
    by_cases c4 : 0 ≤ (l0.length : Int)
    · rw [if_pos c4] at H
      have c4b0 := eq_true c4
      have c4b1 : decide (0 ≤ (l0.length : Int)) = true := decide_eq_true c4
      clear c4
      have c5b0 := eq_true (of_decide_eq_true (by first | (with_reducible assumption) | assumption) : (l0.length : Int) ≤ (l1.length : Int))
      replace H := Option.bind_eq_some_iff.mp H
      obtain ⟨t104, A60, H⟩ := H
      replace H : (some t104) = some r := H
      have A6 := Aside0.mk A60
      clear A60
      obtain rfl := Option.some.inj H
      obtain ⟨i07, hi07, _, hsz7, _⟩ := info_parts info9
      obtain ⟨hcut7, hA7, hC7⟩ := print_take_of (P := Try.prog) Value.string (⟨#[]⟩ : ByteArray) 22 9 .i64 Try.underlying22 hi07 hsz7 A1 c1 l1 (l0.length : Int) (of_decide_eq_true (by first | (with_reducible assumption) | assumption)) (of_decide_eq_true (by first | (with_reducible assumption) | assumption)) HC1.out
      have HR103 := Aside0.mk (Kd.C_of_reads (h1 := fun _ => rfl) (hA7 _ (Kd.reads_of_C HR1.out)))
      have HC103 := Aside0.mk hC7
      clear hA7 hC7 hi07 hsz7
      generalize hy7 : l1.take ((l0.length : Int) : Int).toNat = y7 at A6 HR103 HC103 hcut7
      clear hy7
      go_enter Try.func8, Try.ntmps8
      go_wp2_with (first | (go_at_call 29; (with_reducible refine (slices_Equal_string_string.calls k _ _ l0 _ _ y7 t104 _ ?side1 ?side2 ?side3 ?side4 A6.out).mono ?_); (case side1 => repeat (first | exact HR0.out | (with_reducible refine Kd.C_alloc ?_ _) | (with_reducible refine Kd.C_drewN ?_ _) | (with_reducible refine Kd.C_drew ?_))); (case side2 => exact HC0.out); (case side3 => repeat (first | exact HR103.out | (with_reducible refine Kd.C_alloc ?_ _) | (with_reducible refine Kd.C_drewN ?_ _) | (with_reducible refine Kd.C_drew ?_))); (case side4 => exact HC103.out); rintro e w' ⟨rfl, ⟨nd, rfl⟩⟩))
      go_ret
      exact ⟨by first | rfl | (simp; done) | (simp [*]; done), by repeat (first | exact Drawn0.refl _ | apply Drawn0.step)⟩
    · rw [if_neg c4] at H
      exact absurd H (by simp)
  · rw [if_neg c3] at H
    have c3b0 : decide ((l0.length : Int) ≤ (l1.length : Int)) = false := decide_eq_false c3
    have c3b1 : decide (l0.length ≤ l1.length) = false := decide_eq_false (fun h => c3 (Int.ofNat_le.mpr h))
    clear c3
    obtain rfl := Option.some.inj H
    go_enter Try.func8, Try.ntmps8
    go_wp2
    go_ret
    exact ⟨by first | rfl | (simp; done) | (simp [*]; done), by repeat (first | exact Drawn0.refl _ | apply Drawn0.step)⟩
def quorum_vote_over.f (a0_0 : Int) (a0_1 : Int) (a0_2 : Int) (l0_3 : List ByteArray) (a1_0 : Int) (a1_1 : Int) (a1_2 : Int) (l1_3 : List ByteArray) : Option (Bool) := if a0_1 > a1_1 then (some true) else (if a0_1 = a1_1 then (some (decide ((l0_3.length : Int) > (l1_3.length : Int)))) else (some false))
set_option maxHeartbeats 8000000 in
set_option maxRecDepth 100000 in
theorem quorum_vote_over.calls (a0_0 : Int) (a0_1 : Int) (a0_2 : Int) (A0_3 : Option Addr) (c0_3 : Nat) (l0_3 : List ByteArray) (a1_0 : Int) (a1_1 : Int) (a1_2 : Int) (A1_3 : Option Addr) (c1_3 : Nat) (l1_3 : List ByteArray) (r : Bool) (w : World) (hr0_3 : Kd.C Kd.string w A0_3 l0_3.length l0_3) (hc0_3 : l0_3.length ≤ c0_3) (hr1_3 : Kd.C Kd.string w A1_3 l1_3.length l1_3) (hc1_3 : l1_3.length ≤ c1_3) (h : quorum_vote_over.f a0_0 a0_1 a0_2 l0_3 a1_0 a1_1 a1_2 l1_3 = some r) :
    Calls Try.prog 32 #[.agg #[.int .i64 a0_0, .int .i64 a0_1, .int .i64 a0_2, .slice A0_3 l0_3.length c0_3], .agg #[.int .i64 a1_0, .int .i64 a1_1, .int .i64 a1_2, .slice A1_3 l1_3.length c1_3]] w fun e w' => e = .returned (.bool r) ∧ Below w.heap.size w w' := by
  have hu50 := Try.underlying50
  have HR0_3 := Aside0.mk hr0_3
  have HC0_3 := Aside0.mk hc0_3
  clear hr0_3 hc0_3
  have HR1_3 := Aside0.mk hr1_3
  have HC1_3 := Aside0.mk hc1_3
  clear hr1_3 hc1_3
  have HB := Aside0.mk (Below.refl w.heap.size w)
  have H : (if a0_1 > a1_1 then (some true) else (if a0_1 = a1_1 then (some (decide ((l0_3.length : Int) > (l1_3.length : Int)))) else (some false))) = some r := h
  clear h
  by_cases c3 : a0_1 > a1_1
  · rw [if_pos c3] at H
    have c3b0 : decide (a1_1 < a0_1) = true := decide_eq_true c3
    clear c3
    obtain rfl := Option.some.inj H
    go_enter Try.func32, Try.ntmps32
    go_wp2_with (first | ((with_reducible refine gate_dst (N := 2) rfl ?_); (try (refine gate_guard (by rfl) ?_; dsimp only)); refine box_event ?hg (N := 2) ?hd (cs := #[.int .i64 a0_0, .int .i64 a0_1, .int .i64 a0_2, .slice A0_3 l0_3.length c0_3]) (t := 50) ?hr ?_; (case hd => rfl); (case hg => rfl); (case hr => first | (go_simp; done) | (go_simp; rfl)); intro gb103 hg w4 hbox hb; have n0_ := Aside0.mk (below_step (by repeat (first | (with_reducible first | exact HB.out | apply below_alloc | apply pw_below_drewN | apply below_drew1) | exact HB.out)) hb); have n1_ := Aside0.mk (hbox); have n2_ := Aside0.mk ((by rw [hg]; exact (below_size (by repeat (first | (with_reducible first | exact HB.out | apply below_alloc | apply pw_below_drewN | apply below_drew1) | exact HB.out))) : w.heap.size ≤ gb103)); have n3_ := Aside0.mk ((by rw [hg]; exact (below_size (by repeat (first | (with_reducible first | exact HB.out | apply below_alloc | apply pw_below_drewN | apply below_drew1) | exact HB.out))) : w.heap.size ≤ gb103)); clear HB; have HB := n0_; have BK103 := n1_; have GW103 := n2_; have GE103 := n3_; clear n0_ n1_ n2_ n3_; clear hb hbox hg) | ((with_reducible refine gate_dst (N := 3) rfl ?_); (try (refine gate_guard (by rfl) ?_; dsimp only)); refine box_event ?hg (N := 3) ?hd (cs := #[.int .i64 a1_0, .int .i64 a1_1, .int .i64 a1_2, .slice A1_3 l1_3.length c1_3]) (t := 50) ?hr ?_; (case hd => rfl); (case hg => rfl); (case hr => first | (go_simp; done) | (go_simp; rfl)); intro gb104 hg w5 hbox hb; have n0_ := Aside0.mk (blk_below (g := gb103) (o := .cells #[.int .i64 a0_0, .int .i64 a0_1, .int .i64 a0_2, .slice A0_3 l0_3.length c0_3] 50 (0, 0)) (by (with_reducible repeat (first | refine blk_drewN ?_ _ | refine blk_drew ?_ | refine blk_alloc ?_ _)); exact BK103.out) hb); have n1_ := Aside0.mk (below_step (by repeat (first | (with_reducible first | exact HB.out | apply below_alloc | apply pw_below_drewN | apply below_drew1 | refine below_set ?_ GE103.out) | exact HB.out)) hb); have n2_ := Aside0.mk (hbox); have n3_ := Aside0.mk ((by rw [hg]; exact (below_size (by repeat (first | (with_reducible first | exact HB.out | apply below_alloc | apply pw_below_drewN | apply below_drew1 | refine below_set ?_ GE103.out) | exact HB.out))) : w.heap.size ≤ gb104)); have n4_ := Aside0.mk ((by rw [hg]; exact (below_size (by repeat (first | (with_reducible first | exact HB.out | apply below_alloc | apply pw_below_drewN | apply below_drew1 | refine below_set ?_ GE103.out) | exact HB.out))) : w.heap.size ≤ gb104)); have n5_ := Aside0.mk ((by rw [hg]; exact Nat.ne_of_lt (blk_lt (g := gb103) (o := .cells #[.int .i64 a0_0, .int .i64 a0_1, .int .i64 a0_2, .slice A0_3 l0_3.length c0_3] 50 (0, 0)) (by (with_reducible repeat (first | refine blk_drewN ?_ _ | refine blk_drew ?_ | refine blk_alloc ?_ _)); exact BK103.out)) : gb103 ≠ gb104)); have n6_ := Aside0.mk ((by rw [hg]; exact Nat.ne_of_gt (blk_lt (g := gb103) (o := .cells #[.int .i64 a0_0, .int .i64 a0_1, .int .i64 a0_2, .slice A0_3 l0_3.length c0_3] 50 (0, 0)) (by (with_reducible repeat (first | refine blk_drewN ?_ _ | refine blk_drew ?_ | refine blk_alloc ?_ _)); exact BK103.out)) : gb104 ≠ gb103)); clear BK103; clear HB; have BK103 := n0_; have HB := n1_; have BK104 := n2_; have GW104 := n3_; have GE104 := n4_; have NB103_104 := n5_; have NB104_103 := n6_; clear n0_ n1_ n2_ n3_ n4_ n5_ n6_; clear hb hbox hg; have hnb6 := NB103_104.out; have hnc6 := NB104_103.out; have hcz7_0 : w5.cell? ⟨gb103, 0, none⟩ = some (.int .i64 a0_0) := (blk_cell BK103.out 0).trans rfl; have hcz7_1 : w5.cell? ⟨gb103, 1, none⟩ = some (.int .i64 a0_1) := (blk_cell BK103.out 1).trans rfl; have hcz7_2 : w5.cell? ⟨gb103, 2, none⟩ = some (.int .i64 a0_2) := (blk_cell BK103.out 2).trans rfl; have hcz7_3 : w5.cell? ⟨gb103, 3, none⟩ = some (.slice A0_3 l0_3.length c0_3) := (blk_cell BK103.out 3).trans rfl; have hfz7_0 := blk_frozen BK103.out 0; have hfz7_1 := blk_frozen BK103.out 1; have hfz7_2 := blk_frozen BK103.out 2; have hfz7_3 := blk_frozen BK103.out 3; have hcz8_0 : w5.cell? ⟨gb104, 0, none⟩ = some (.int .i64 a1_0) := (blk_cell BK104.out 0).trans rfl; have hcz8_1 : w5.cell? ⟨gb104, 1, none⟩ = some (.int .i64 a1_1) := (blk_cell BK104.out 1).trans rfl; have hcz8_2 : w5.cell? ⟨gb104, 2, none⟩ = some (.int .i64 a1_2) := (blk_cell BK104.out 2).trans rfl; have hcz8_3 : w5.cell? ⟨gb104, 3, none⟩ = some (.slice A1_3 l1_3.length c1_3) := (blk_cell BK104.out 3).trans rfl; have hfz8_0 := blk_frozen BK104.out 0; have hfz8_1 := blk_frozen BK104.out 1; have hfz8_2 := blk_frozen BK104.out 2; have hfz8_3 := blk_frozen BK104.out 3))
    go_ret
    exact ⟨by first | rfl | (simp [errW_none, errW_some] <;> rfl) | (simp [*, errW_none, errW_some] <;> rfl), by repeat (first | (with_reducible first | exact HB.out | apply below_alloc | apply pw_below_drewN | apply below_drew1 | refine below_set ?_ GE103.out | refine below_set ?_ GE104.out) | exact HB.out)⟩
  · rw [if_neg c3] at H
    have c3b0 : decide (a1_1 < a0_1) = false := decide_eq_false c3
    clear c3
    by_cases c9 : a0_1 = a1_1
    · rw [if_pos c9] at H
      have c9b0 : (a0_1 == a1_1) = true := beq_iff_eq.mpr c9
      have c9b1 : (a0_1 != a1_1) = false := bne_eq_false_iff_eq.mpr c9
      clear c9
      obtain rfl := Option.some.inj H
      go_enter Try.func32, Try.ntmps32
      go_wp2_with (first | ((with_reducible refine gate_dst (N := 2) rfl ?_); (try (refine gate_guard (by rfl) ?_; dsimp only)); refine box_event ?hg (N := 2) ?hd (cs := #[.int .i64 a0_0, .int .i64 a0_1, .int .i64 a0_2, .slice A0_3 l0_3.length c0_3]) (t := 50) ?hr ?_; (case hd => rfl); (case hg => rfl); (case hr => first | (go_simp; done) | (go_simp; rfl)); intro gb103 hg w10 hbox hb; have n0_ := Aside0.mk (below_step (by repeat (first | (with_reducible first | exact HB.out | apply below_alloc | apply pw_below_drewN | apply below_drew1) | exact HB.out)) hb); have n1_ := Aside0.mk (hbox); have n2_ := Aside0.mk ((by rw [hg]; exact (below_size (by repeat (first | (with_reducible first | exact HB.out | apply below_alloc | apply pw_below_drewN | apply below_drew1) | exact HB.out))) : w.heap.size ≤ gb103)); have n3_ := Aside0.mk ((by rw [hg]; exact (below_size (by repeat (first | (with_reducible first | exact HB.out | apply below_alloc | apply pw_below_drewN | apply below_drew1) | exact HB.out))) : w.heap.size ≤ gb103)); clear HB; have HB := n0_; have BK103 := n1_; have GW103 := n2_; have GE103 := n3_; clear n0_ n1_ n2_ n3_; clear hb hbox hg) | ((with_reducible refine gate_dst (N := 3) rfl ?_); (try (refine gate_guard (by rfl) ?_; dsimp only)); refine box_event ?hg (N := 3) ?hd (cs := #[.int .i64 a1_0, .int .i64 a1_1, .int .i64 a1_2, .slice A1_3 l1_3.length c1_3]) (t := 50) ?hr ?_; (case hd => rfl); (case hg => rfl); (case hr => first | (go_simp; done) | (go_simp; rfl)); intro gb104 hg w11 hbox hb; have n0_ := Aside0.mk (blk_below (g := gb103) (o := .cells #[.int .i64 a0_0, .int .i64 a0_1, .int .i64 a0_2, .slice A0_3 l0_3.length c0_3] 50 (0, 0)) (by (with_reducible repeat (first | refine blk_drewN ?_ _ | refine blk_drew ?_ | refine blk_alloc ?_ _)); exact BK103.out) hb); have n1_ := Aside0.mk (below_step (by repeat (first | (with_reducible first | exact HB.out | apply below_alloc | apply pw_below_drewN | apply below_drew1 | refine below_set ?_ GE103.out) | exact HB.out)) hb); have n2_ := Aside0.mk (hbox); have n3_ := Aside0.mk ((by rw [hg]; exact (below_size (by repeat (first | (with_reducible first | exact HB.out | apply below_alloc | apply pw_below_drewN | apply below_drew1 | refine below_set ?_ GE103.out) | exact HB.out))) : w.heap.size ≤ gb104)); have n4_ := Aside0.mk ((by rw [hg]; exact (below_size (by repeat (first | (with_reducible first | exact HB.out | apply below_alloc | apply pw_below_drewN | apply below_drew1 | refine below_set ?_ GE103.out) | exact HB.out))) : w.heap.size ≤ gb104)); have n5_ := Aside0.mk ((by rw [hg]; exact Nat.ne_of_lt (blk_lt (g := gb103) (o := .cells #[.int .i64 a0_0, .int .i64 a0_1, .int .i64 a0_2, .slice A0_3 l0_3.length c0_3] 50 (0, 0)) (by (with_reducible repeat (first | refine blk_drewN ?_ _ | refine blk_drew ?_ | refine blk_alloc ?_ _)); exact BK103.out)) : gb103 ≠ gb104)); have n6_ := Aside0.mk ((by rw [hg]; exact Nat.ne_of_gt (blk_lt (g := gb103) (o := .cells #[.int .i64 a0_0, .int .i64 a0_1, .int .i64 a0_2, .slice A0_3 l0_3.length c0_3] 50 (0, 0)) (by (with_reducible repeat (first | refine blk_drewN ?_ _ | refine blk_drew ?_ | refine blk_alloc ?_ _)); exact BK103.out)) : gb104 ≠ gb103)); clear BK103; clear HB; have BK103 := n0_; have HB := n1_; have BK104 := n2_; have GW104 := n3_; have GE104 := n4_; have NB103_104 := n5_; have NB104_103 := n6_; clear n0_ n1_ n2_ n3_ n4_ n5_ n6_; clear hb hbox hg; have hnb12 := NB103_104.out; have hnc12 := NB104_103.out; have hcz13_0 : w11.cell? ⟨gb103, 0, none⟩ = some (.int .i64 a0_0) := (blk_cell BK103.out 0).trans rfl; have hcz13_1 : w11.cell? ⟨gb103, 1, none⟩ = some (.int .i64 a0_1) := (blk_cell BK103.out 1).trans rfl; have hcz13_2 : w11.cell? ⟨gb103, 2, none⟩ = some (.int .i64 a0_2) := (blk_cell BK103.out 2).trans rfl; have hcz13_3 : w11.cell? ⟨gb103, 3, none⟩ = some (.slice A0_3 l0_3.length c0_3) := (blk_cell BK103.out 3).trans rfl; have hfz13_0 := blk_frozen BK103.out 0; have hfz13_1 := blk_frozen BK103.out 1; have hfz13_2 := blk_frozen BK103.out 2; have hfz13_3 := blk_frozen BK103.out 3; have hcz14_0 : w11.cell? ⟨gb104, 0, none⟩ = some (.int .i64 a1_0) := (blk_cell BK104.out 0).trans rfl; have hcz14_1 : w11.cell? ⟨gb104, 1, none⟩ = some (.int .i64 a1_1) := (blk_cell BK104.out 1).trans rfl; have hcz14_2 : w11.cell? ⟨gb104, 2, none⟩ = some (.int .i64 a1_2) := (blk_cell BK104.out 2).trans rfl; have hcz14_3 : w11.cell? ⟨gb104, 3, none⟩ = some (.slice A1_3 l1_3.length c1_3) := (blk_cell BK104.out 3).trans rfl; have hfz14_0 := blk_frozen BK104.out 0; have hfz14_1 := blk_frozen BK104.out 1; have hfz14_2 := blk_frozen BK104.out 2; have hfz14_3 := blk_frozen BK104.out 3))
      go_ret
      exact ⟨by first | rfl | (simp [errW_none, errW_some] <;> rfl) | (simp [*, errW_none, errW_some] <;> rfl), by repeat (first | (with_reducible first | exact HB.out | apply below_alloc | apply pw_below_drewN | apply below_drew1 | refine below_set ?_ GE103.out | refine below_set ?_ GE104.out) | exact HB.out)⟩
    · rw [if_neg c9] at H
      have c9b0 : (a0_1 == a1_1) = false := beq_eq_false_iff_ne.mpr c9
      have c9b1 : (a0_1 != a1_1) = true := bne_iff_ne.mpr c9
      obtain rfl := Option.some.inj H
      go_enter Try.func32, Try.ntmps32
      go_wp2_with (first | ((with_reducible refine gate_dst (N := 2) rfl ?_); (try (refine gate_guard (by rfl) ?_; dsimp only)); refine box_event ?hg (N := 2) ?hd (cs := #[.int .i64 a0_0, .int .i64 a0_1, .int .i64 a0_2, .slice A0_3 l0_3.length c0_3]) (t := 50) ?hr ?_; (case hd => rfl); (case hg => rfl); (case hr => first | (go_simp; done) | (go_simp; rfl)); intro gb103 hg w15 hbox hb; have n0_ := Aside0.mk (below_step (by repeat (first | (with_reducible first | exact HB.out | apply below_alloc | apply pw_below_drewN | apply below_drew1) | exact HB.out)) hb); have n1_ := Aside0.mk (hbox); have n2_ := Aside0.mk ((by rw [hg]; exact (below_size (by repeat (first | (with_reducible first | exact HB.out | apply below_alloc | apply pw_below_drewN | apply below_drew1) | exact HB.out))) : w.heap.size ≤ gb103)); have n3_ := Aside0.mk ((by rw [hg]; exact (below_size (by repeat (first | (with_reducible first | exact HB.out | apply below_alloc | apply pw_below_drewN | apply below_drew1) | exact HB.out))) : w.heap.size ≤ gb103)); clear HB; have HB := n0_; have BK103 := n1_; have GW103 := n2_; have GE103 := n3_; clear n0_ n1_ n2_ n3_; clear hb hbox hg) | ((with_reducible refine gate_dst (N := 3) rfl ?_); (try (refine gate_guard (by rfl) ?_; dsimp only)); refine box_event ?hg (N := 3) ?hd (cs := #[.int .i64 a1_0, .int .i64 a1_1, .int .i64 a1_2, .slice A1_3 l1_3.length c1_3]) (t := 50) ?hr ?_; (case hd => rfl); (case hg => rfl); (case hr => first | (go_simp; done) | (go_simp; rfl)); intro gb104 hg w16 hbox hb; have n0_ := Aside0.mk (blk_below (g := gb103) (o := .cells #[.int .i64 a0_0, .int .i64 a0_1, .int .i64 a0_2, .slice A0_3 l0_3.length c0_3] 50 (0, 0)) (by (with_reducible repeat (first | refine blk_drewN ?_ _ | refine blk_drew ?_ | refine blk_alloc ?_ _)); exact BK103.out) hb); have n1_ := Aside0.mk (below_step (by repeat (first | (with_reducible first | exact HB.out | apply below_alloc | apply pw_below_drewN | apply below_drew1 | refine below_set ?_ GE103.out) | exact HB.out)) hb); have n2_ := Aside0.mk (hbox); have n3_ := Aside0.mk ((by rw [hg]; exact (below_size (by repeat (first | (with_reducible first | exact HB.out | apply below_alloc | apply pw_below_drewN | apply below_drew1 | refine below_set ?_ GE103.out) | exact HB.out))) : w.heap.size ≤ gb104)); have n4_ := Aside0.mk ((by rw [hg]; exact (below_size (by repeat (first | (with_reducible first | exact HB.out | apply below_alloc | apply pw_below_drewN | apply below_drew1 | refine below_set ?_ GE103.out) | exact HB.out))) : w.heap.size ≤ gb104)); have n5_ := Aside0.mk ((by rw [hg]; exact Nat.ne_of_lt (blk_lt (g := gb103) (o := .cells #[.int .i64 a0_0, .int .i64 a0_1, .int .i64 a0_2, .slice A0_3 l0_3.length c0_3] 50 (0, 0)) (by (with_reducible repeat (first | refine blk_drewN ?_ _ | refine blk_drew ?_ | refine blk_alloc ?_ _)); exact BK103.out)) : gb103 ≠ gb104)); have n6_ := Aside0.mk ((by rw [hg]; exact Nat.ne_of_gt (blk_lt (g := gb103) (o := .cells #[.int .i64 a0_0, .int .i64 a0_1, .int .i64 a0_2, .slice A0_3 l0_3.length c0_3] 50 (0, 0)) (by (with_reducible repeat (first | refine blk_drewN ?_ _ | refine blk_drew ?_ | refine blk_alloc ?_ _)); exact BK103.out)) : gb104 ≠ gb103)); clear BK103; clear HB; have BK103 := n0_; have HB := n1_; have BK104 := n2_; have GW104 := n3_; have GE104 := n4_; have NB103_104 := n5_; have NB104_103 := n6_; clear n0_ n1_ n2_ n3_ n4_ n5_ n6_; clear hb hbox hg; have hnb17 := NB103_104.out; have hnc17 := NB104_103.out; have hcz18_0 : w16.cell? ⟨gb103, 0, none⟩ = some (.int .i64 a0_0) := (blk_cell BK103.out 0).trans rfl; have hcz18_1 : w16.cell? ⟨gb103, 1, none⟩ = some (.int .i64 a0_1) := (blk_cell BK103.out 1).trans rfl; have hcz18_2 : w16.cell? ⟨gb103, 2, none⟩ = some (.int .i64 a0_2) := (blk_cell BK103.out 2).trans rfl; have hcz18_3 : w16.cell? ⟨gb103, 3, none⟩ = some (.slice A0_3 l0_3.length c0_3) := (blk_cell BK103.out 3).trans rfl; have hfz18_0 := blk_frozen BK103.out 0; have hfz18_1 := blk_frozen BK103.out 1; have hfz18_2 := blk_frozen BK103.out 2; have hfz18_3 := blk_frozen BK103.out 3; have hcz19_0 : w16.cell? ⟨gb104, 0, none⟩ = some (.int .i64 a1_0) := (blk_cell BK104.out 0).trans rfl; have hcz19_1 : w16.cell? ⟨gb104, 1, none⟩ = some (.int .i64 a1_1) := (blk_cell BK104.out 1).trans rfl; have hcz19_2 : w16.cell? ⟨gb104, 2, none⟩ = some (.int .i64 a1_2) := (blk_cell BK104.out 2).trans rfl; have hcz19_3 : w16.cell? ⟨gb104, 3, none⟩ = some (.slice A1_3 l1_3.length c1_3) := (blk_cell BK104.out 3).trans rfl; have hfz19_0 := blk_frozen BK104.out 0; have hfz19_1 := blk_frozen BK104.out 1; have hfz19_2 := blk_frozen BK104.out 2; have hfz19_3 := blk_frozen BK104.out 3))
      go_ret
      exact ⟨by first | rfl | (simp [errW_none, errW_some] <;> rfl) | (simp [*, errW_none, errW_some] <;> rfl), by repeat (first | (with_reducible first | exact HB.out | apply below_alloc | apply pw_below_drewN | apply below_drew1 | refine below_set ?_ GE103.out | refine below_set ?_ GE104.out) | exact HB.out)⟩
def quorum_vote_own.f (a0_0 : Int) (a0_1 : Int) (a0_2 : Int) (l0_3 : List ByteArray) : Option (Int × Int × Int × List ByteArray) := if l0_3.length < 4398046511104 then some (a0_0, a0_1, a0_2, l0_3) else none
set_option maxHeartbeats 8000000 in
set_option maxRecDepth 100000 in
theorem quorum_vote_own.calls (a0_0 : Int) (a0_1 : Int) (a0_2 : Int) (A0_3 : Option Addr) (c0_3 : Nat) (l0_3 : List ByteArray) (r1 : Int) (r2 : Int) (r3 : Int) (r4 : List ByteArray) (w : World) (hr0_3 : Kd.C Kd.string w A0_3 l0_3.length l0_3) (hc0_3 : l0_3.length ≤ c0_3) (h : quorum_vote_own.f a0_0 a0_1 a0_2 l0_3 = some (r1, r2, r3, r4)) :
    Calls Try.prog 33 #[.agg #[.int .i64 a0_0, .int .i64 a0_1, .int .i64 a0_2, .slice A0_3 l0_3.length c0_3]] w fun e w' => ∃ v3_ : Value, e = .returned (.agg #[.int .i64 r1, .int .i64 r2, .int .i64 r3, v3_]) ∧ Kd.R Kd.string 9 w' w.heap.size (fun _ => True) v3_ r4 ∧ Below w.heap.size w w' := by
  have hu29 := Try.underlying29
  have hu50 := Try.underlying50
  have hu22 := Try.underlying22
  have hu9 := Try.underlying9
  unfold quorum_vote_own.f at h
  split at h
  case isFalse => cases h
  rename_i hl
  injection h with h
  injection h with h1 h
  injection h with h2 h
  injection h with h3 h
  subst h1; subst h2; subst h3; subst h
  have HR := Aside0.mk hr0_3
  have HL := Aside0.mk hl
  have HC := Aside0.mk hc0_3
  clear hr0_3 hc0_3 hl
  have hm : ∀ W : World, (Instr.makeSlice 22 (.int .i64 (l0_3.length : Int)) (.int .i64 (l0_3.length : Int))).run Try.prog W = .ok (.slice (some ⟨W.heap.size, 0, none⟩) l0_3.length l0_3.length) (W.alloc (.cells (madeCells (Value.string ⟨#[]⟩).cells l0_3.length) 9)) := fun W => by
    obtain ⟨i, hi, hz, hs, hb⟩ := info_parts info9
    have h := run_make (P := Try.prog) W 22 9 i (.string ⟨#[]⟩) hu22 hi hz .i64 .i64 (l0_3.length : Int) (l0_3.length : Int) (by omega) (by omega) (by have := HL.out; rw [hb]; omega) (by have := HL.out; omega)
    simp only [Int.toNat_natCast, hs, Nat.mul_one] at h
    exact h
  have hcp : ∀ o1 o2 : Obj, (Builtin.copy_ #[22, 22] 3 #[.slice (some ⟨w.heap.size + 1 + 1, 0, none⟩) l0_3.length l0_3.length, .slice A0_3 l0_3.length c0_3]).run Try.prog (((w.alloc o1).alloc o2).alloc (.cells (madeCells (Value.string ⟨#[]⟩).cells l0_3.length) 9)) = .ok (.int .i64 (l0_3.length : Int)) (((w.alloc o1).alloc o2).alloc (.cells (l0_3.map Value.string).toArray 9)) := fun o1 o2 => by
    obtain ⟨i, hi, hz, hs, hb⟩ := info_parts info9
    have h := x_copy_fresh (P := Try.prog) Value.string (⟨#[]⟩ : ByteArray) (fun _ => rfl) ((w.alloc o1).alloc o2) 22 22 3 9 9 hu22 (by rw [hi]; simp [hs]) A0_3 l0_3.length c0_3 (madeCells (Value.string ⟨#[]⟩).cells l0_3.length) (size_madeCells _ _) l0_3 (Kd.C_alloc (Kd.C_alloc (Kd.C_alloc HR.out _) _) _)
    have hsz : ((w.alloc o1).alloc o2).heap.size = w.heap.size + 1 + 1 := by simp
    rw [hsz] at h
    exact h
  have hln : l0_3.length ≤ maxLen := by have := HL.out; simp [maxLen]; omega
  generalize hcs : (l0_3.map Value.string).toArray = cs at *
  generalize hn : l0_3.length = n at *
  generalize hc : madeCells (Value.string ⟨#[]⟩).cells n = mc at *
  go_enter Try.func33, Try.ntmps33
  go_wp2
  refine bodyPost_ret (results_cell_row rfl _ _ (w.heap.size + 1) 29 #[.int .i64 a0_0, .int .i64 a0_1, .int .i64 a0_2, .slice (some ⟨w.heap.size + 1 + 1, 0, none⟩) n n] (0, 0) _ rfl ?_ Try.underlying29 rfl (by kernel_rfl)) rfl ?_
  · have h1 := Below.heap_alloc (((w.alloc (.cells #[.int .i64 a0_0, .int .i64 a0_1, .int .i64 a0_2, .slice (some ⟨w.heap.size + 1 + 1, 0, none⟩) n n] 50)).alloc (.cells #[.int .i64 a0_0, .int .i64 a0_1, .int .i64 a0_2, .slice (some ⟨w.heap.size + 1 + 1, 0, none⟩) n n] 29))) (.cells cs 9) (w.heap.size + 1) (by simp)
    refine h1.trans ?_
    have h2 := x_alloc_new (w.alloc (.cells #[.int .i64 a0_0, .int .i64 a0_1, .int .i64 a0_2, .slice (some ⟨w.heap.size + 1 + 1, 0, none⟩) n n] 50)) (.cells #[.int .i64 a0_0, .int .i64 a0_1, .int .i64 a0_2, .slice (some ⟨w.heap.size + 1 + 1, 0, none⟩) n n] 29)
    simpa using h2
  subst hn
  refine ⟨_, rfl, x_R_scalar Value.string (fun _ => rfl) 9 _ w.heap.size _ (w.heap.size + 1 + 1) l0_3 (by omega) ?_ hln trivial, ?_⟩
  · rw [hcs]
    have h := x_alloc_new ((w.alloc (.cells #[.int .i64 a0_0, .int .i64 a0_1, .int .i64 a0_2, .slice (some ⟨w.heap.size + 1 + 1, 0, none⟩) l0_3.length l0_3.length] 50)).alloc (.cells #[.int .i64 a0_0, .int .i64 a0_1, .int .i64 a0_2, .slice (some ⟨w.heap.size + 1 + 1, 0, none⟩) l0_3.length l0_3.length] 29)) (.cells cs 9)
    simpa using h
  · exact below_alloc (below_alloc (below_alloc (Below.refl _ _) _) _) _
def quorum_Best.better (v o : S29) : Bool := if v.f1 > o.f1 then true else if v.f1 = o.f1 then decide ((v.f3.length : Int) > (o.f3.length : Int)) else false
theorem quorum_Best.better_of (v o : S29) : quorum_vote_over.f v.f0 v.f1 v.f2 v.f3 o.f0 o.f1 o.f2 o.f3 = some (quorum_Best.better v o) := by
  unfold quorum_vote_over.f quorum_Best.better
  split
  · rfl
  · split <;> rfl
def quorum_Best.best (l : List S29) (b : S29) : S29 := l.foldl (fun b v => if quorum_Best.better v b then v else b) b
theorem quorum_Best.best_append (l : List S29) (v b : S29) : quorum_Best.best (l ++ [v]) b = if quorum_Best.better v (quorum_Best.best l b) then v else quorum_Best.best l b := by unfold quorum_Best.best; rw [List.foldl_append]; rfl
def quorum_Best.f (l0 : List S29) : Option (Int × Int × Int × List ByteArray × Bool) := match l0 with
  | [] => some (0, 0, 0, [], false)
  | v :: l => if l.length < 4398046511104 ∧ (quorum_Best.best l v).f3.length < 4398046511104 then some ((quorum_Best.best l v).f0, (quorum_Best.best l v).f1, (quorum_Best.best l v).f2, (quorum_Best.best l v).f3, true) else none
set_option maxHeartbeats 8000000 in
set_option maxRecDepth 100000 in
theorem quorum_Best.calls (A0 : Option Addr) (c0 : Nat) (l0 : List S29) (r1 : Int) (r2 : Int) (r3 : Int) (r4 : List ByteArray) (r5 : Bool) (w : World) (hr0 : Kd.C k29 w A0 l0.length l0) (hc0 : l0.length ≤ c0) (h : quorum_Best.f l0 = some (r1, r2, r3, r4, r5)) :
    Calls Try.prog 12 #[.slice A0 l0.length c0] w fun e w' => ∃ v3_ : Value, e = .returned (.tuple #[.agg #[.int .i64 r1, .int .i64 r2, .int .i64 r3, v3_], .bool r5]) ∧ Kd.R Kd.string 9 w' w.heap.size (fun _ => True) v3_ r4 ∧ Below w.heap.size w w' := by
  have hu29 := Try.underlying29
  have hu50 := Try.underlying50
  have hu26 := Try.underlying26
  have HR := Aside0.mk hr0
  have HC := Aside0.mk hc0
  clear hr0 hc0
  have hcs : l0 = [] ∨ ∃ v0 tl, l0 = v0 :: tl := by cases l0 <;> simp
  rcases hcs with hl0 | ⟨v0, tl, hl0⟩
  · subst hl0
    have h := Option.some.inj h
    injection h with h1 h
    injection h with h2 h
    injection h with h3 h
    injection h with h4 h5
    subst h1; subst h2; subst h3; subst h4; subst h5
    go_enter Try.func12, Try.ntmps12
    go_wp2
    refine bodyPost_ret (results_ct rfl _ _ w.heap.size 29 #[.int .i64 0, .int .i64 0, .int .i64 0, .slice none 0 0] (0, 0) _ rfl ?_ Try.underlying29 rfl (by kernel_rfl)) rfl ?_
    · exact x_alloc_new _ _
    exact ⟨_, rfl, Kd.R_nil _ _ _ _ _, below_alloc (Below.refl _ _) _⟩
  · have h' : (if tl.length < 4398046511104 ∧ (quorum_Best.best tl v0).f3.length < 4398046511104 then some ((quorum_Best.best tl v0).f0, (quorum_Best.best tl v0).f1, (quorum_Best.best tl v0).f2, (quorum_Best.best tl v0).f3, true) else none) = some (r1, r2, r3, r4, r5) := by rw [hl0] at h; exact h
    clear h
    have h := h'
    clear h'
    split at h
    case isFalse => cases h
    rename_i hlim
    have h := Option.some.inj h
    injection h with h1 h
    injection h with h2 h
    injection h with h3 h
    injection h with h4 h5
    have HQ := Aside0.mk (And.intro h1 (And.intro h2 (And.intro h3 (And.intro h4 h5))))
    have HLIM := Aside0.mk hlim
    clear h1 h2 h3 h4 h5 hlim
    have HL0 := Aside0.mk hl0
    have hn0 : l0.length = tl.length + 1 := by rw [hl0]; rfl
    have hb0 : decide ((l0.length : Int) = 0) = false := decide_eq_false (by omega)
    have hb0' : ((l0.length : Int) == 0) = false := by simpa using hb0
    obtain ⟨i0, hi0, hz0, hs0, hbb0⟩ := info_parts info29
    have hcut := cut_from (P := Try.prog) 26 29 .i64 hu26 hi0 4 hs0 A0 l0.length c0 1 (by omega) (by omega)
    have HD := Aside0.mk (Kd.C_drop (c := c0) (m := 1) HR.out (by omega) HC.out)
    have htl : l0.drop 1 = tl := by rw [hl0]; rfl
    rw [htl] at HD
    have HT := @at_T29 w A0 l0.length l0 HR.out 0 (by omega) (by omega)
    have hrd0 : rd_T29 l0 0 = v0 := by rw [hl0]; rfl
    rw [hrd0] at HT
    obtain ⟨ad, Ab, cb, rfl, hx0, hx1, hx2, hx3, hl3, hi3⟩ := HT
    simp only [show (1 : Int).toNat = 1 from rfl, show (0 : Int).toNat = 0 from rfl, Nat.zero_mul, Nat.one_mul] at hcut hx0 hx1 hx2 hx3
    rw [show ad.add 0 = ad from rfl] at hx0 hx1 hx2 hx3
    replace hx0 := fun o => ((below_alloc (Below.refl w.heap.size w) o).cell (World.block_lt_of_cell? w _ hx0)).trans hx0
    replace hx1 := fun o => ((below_alloc (Below.refl w.heap.size w) o).cell (World.block_lt_of_cell? w _ hx1)).trans hx1
    replace hx2 := fun o => ((below_alloc (Below.refl w.heap.size w) o).cell (World.block_lt_of_cell? w _ hx2)).trans hx2
    replace hx3 := fun o => ((below_alloc (Below.refl w.heap.size w) o).cell (World.block_lt_of_cell? w _ hx3)).trans hx3
    have hsub : l0.length - 1 = tl.length := by omega
    rw [hsub] at hcut
    change Aside0 (Kd.C k29 w (if c0 = 1 then some ad else (some ad).map (·.add (1 * 4))) _ _) at HD
    rw [Nat.one_mul] at HD
    generalize (if c0 = 1 then some ad else (some ad).map (·.add 4)) = A1 at hcut HD
    have hc1 : tl.length ≤ c0 - 1 := by have := HC.out; omega
    generalize c0 - 1 = c1 at hcut hc1
    have HC1 := Aside0.mk hc1
    have HL3 := Aside0.mk hl3
    have HI3 := Aside0.mk hi3
    have HN := Aside0.mk hn0
    clear hl0 hc1 hl3 hi3 htl hsub hrd0 hi0 hz0 hs0 hbb0
    generalize hn : l0.length = n at *
    generalize hm : tl.length = m at *
    have hp1 : (0 < n) = True := eq_true (by omega)
    have hp2 : ((0 : Int) < (n : Int)) = True := eq_true (by omega)
    have hp3 : decide ((0 : Int) < (n : Int)) = true := decide_eq_true (by omega)
    have hp4 : (n = 0) = False := eq_false (by omega)
    clear hn0
    go_enter Try.func12, Try.ntmps12
    go_wp2
    go_loopg [19] m (fun kq v19 w' => ∃ (i : Nat) (cur : S29) (Ac : Option Addr) (cc : Nat), v19 = .int .i64 (i : Int) ∧ Aside0 (kq = m - i ∧ i ≤ m) ∧ Aside0 (cur = quorum_Best.best (tl.take i) v0) ∧ Aside0 (w'.heap[w.heap.size + 1]? = some (.cells #[.int .i64 cur.f0, .int .i64 cur.f1, .int .i64 cur.f2, .slice Ac cur.f3.length cc] 50 (0, 0))) ∧ Aside0 (cur.f3.length ≤ cc) ∧ Aside0 (Kd.string.C w Ac cur.f3.length cur.f3) ∧ Aside0 (w'.heap[w.heap.size]? = some (.cells #[.int .i64 0, .int .i64 0, .int .i64 0, .slice none 0 0] 29 (0, 0))) ∧ Aside0 (Below w.heap.size w w'))
    case atStart =>
      refine ⟨0, v0, Ab, cb, rfl, ⟨by simp⟩, ⟨rfl⟩, ⟨?_⟩, HL3, HI3, ⟨blk_alloc (x_alloc_new _ _) _⟩, ⟨below_alloc (below_alloc (Below.refl _ _) _) _⟩⟩
      have h1 := x_alloc_new (w.alloc (.cells #[.int .i64 0, .int .i64 0, .int .i64 0, .slice none 0 0] 29)) (.cells #[.int .i64 v0.f0, .int .i64 v0.f1, .int .i64 v0.f2, .slice Ab v0.f3.length cb] 50)
      simpa using h1
    case round =>
      obtain ⟨i, cur, Ac, cc, rfl, hi, HCUR, HBK, HLC, HCC, HRES, HB⟩ := hrel
      by_cases hlt : i < m
      · have hb1 : decide ((i : Int) < (m : Int)) = true := decide_eq_true (by omega)
        have p1 : (0 : Int) ≤ (i : Int) := by omega
        have q1 : (i : Int) < (m : Int) := by omega
        have HDD := HD.out
        obtain ⟨ad2, A3, c3, rfl, hy0, hy1, hy2, hy3, hly, hiy⟩ := at_T29 HDD (i : Int) p1 q1
        clear HDD
        simp only [Int.toNat_natCast] at hy0 hy1 hy2 hy3
        replace hy0 := (HB.out.cell (World.block_lt_of_cell? w _ hy0)).trans hy0
        replace hy1 := (HB.out.cell (World.block_lt_of_cell? w _ hy1)).trans hy1
        replace hy2 := (HB.out.cell (World.block_lt_of_cell? w _ hy2)).trans hy2
        replace hy3 := (HB.out.cell (World.block_lt_of_cell? w _ hy3)).trans hy3
        have HT : tl.take (i + 1) = tl.take i ++ [rd_T29 tl (i : Int)] := by
          rw [List.take_succ_eq_append_getElem (by rw [hm]; omega)]
          simp [rd_T29, List.getD_eq_getElem?_getD, List.getElem?_eq_getElem (show i < tl.length by rw [hm]; omega)]
        have HT1 := Aside0.mk HT
        clear HT
        replace p1 := eq_true p1
        replace q1 := eq_true q1
        generalize hv : rd_T29 tl (i : Int) = v at *
        clear hv
        have HLY := Aside0.mk hly
        have HIY := Aside0.mk (Kd.C_below hiy HB.out)
        have HIYW := Aside0.mk hiy
        have HCC2 := Aside0.mk (Kd.C_below HCC.out HB.out)
        clear hly hiy
        have hx0' : ∀ o, (wr.alloc o).cell? ⟨w.heap.size + 1, 0, none⟩ = some (.int .i64 cur.f0) := fun o => blk_cell (blk_alloc HBK.out o) 0
        have hx1' : ∀ o, (wr.alloc o).cell? ⟨w.heap.size + 1, 1, none⟩ = some (.int .i64 cur.f1) := fun o => blk_cell (blk_alloc HBK.out o) 1
        have hx2' : ∀ o, (wr.alloc o).cell? ⟨w.heap.size + 1, 2, none⟩ = some (.int .i64 cur.f2) := fun o => blk_cell (blk_alloc HBK.out o) 2
        have hx3' : ∀ o, (wr.alloc o).cell? ⟨w.heap.size + 1, 3, none⟩ = some (.slice Ac cur.f3.length cc) := fun o => blk_cell (blk_alloc HBK.out o) 3
        by_cases hbv : quorum_Best.better v cur = true
        · have HOV := Aside0.mk ((quorum_Best.better_of v cur).trans (by rw [hbv]))
          go_wp2_with (first | (go_at_call 32; refine (quorum_vote_over.calls v.f0 v.f1 v.f2 _ _ v.f3 cur.f0 cur.f1 cur.f2 _ _ cur.f3 true _ ?s1 ?s2 ?s3 ?s4 HOV.out).mono ?_; (case s1 => exact Kd.C_alloc HIY.out _); (case s2 => exact HLY.out); (case s3 => exact Kd.C_alloc HCC2.out _); (case s4 => exact HLC.out); rintro e w2 ⟨rfl, hb2⟩; have HB2 := Aside0.mk (below_step (below_alloc HB.out _) hb2); have BK8 := Aside0.mk ((hb2.block wr.heap.size (by simp)).trans (x_alloc_new wr (.cells #[.int .i64 v.f0, .int .i64 v.f1, .int .i64 v.f2, .slice A3 v.f3.length c3] 29))); have BK6 := Aside0.mk ((hb2.block (w.heap.size + 1) (by have := blk_lt HBK.out; simp; omega)).trans (blk_alloc HBK.out (.cells #[.int .i64 v.f0, .int .i64 v.f1, .int .i64 v.f2, .slice A3 v.f3.length c3] 29))); have BKR := Aside0.mk ((hb2.block w.heap.size (by have := blk_lt HBK.out; simp; omega)).trans (blk_alloc HRES.out (.cells #[.int .i64 v.f0, .int .i64 v.f1, .int .i64 v.f2, .slice A3 v.f3.length c3] 29))); have hz0 : w2.cell? ⟨wr.heap.size, 0, none⟩ = some (.int .i64 v.f0) := blk_cell BK8.out 0; have hz1 : w2.cell? ⟨wr.heap.size, 1, none⟩ = some (.int .i64 v.f1) := blk_cell BK8.out 1; have hz2 : w2.cell? ⟨wr.heap.size, 2, none⟩ = some (.int .i64 v.f2) := blk_cell BK8.out 2; have hz3 : w2.cell? ⟨wr.heap.size, 3, none⟩ = some (.slice A3 v.f3.length c3) := blk_cell BK8.out 3; have hc0 : w2.cell? ⟨w.heap.size + 1, 0, none⟩ = some (.int .i64 cur.f0) := blk_cell BK6.out 0; have hc1 : w2.cell? ⟨w.heap.size + 1, 1, none⟩ = some (.int .i64 cur.f1) := blk_cell BK6.out 1; have hc2 : w2.cell? ⟨w.heap.size + 1, 2, none⟩ = some (.int .i64 cur.f2) := blk_cell BK6.out 2; have hc3 : w2.cell? ⟨w.heap.size + 1, 3, none⟩ = some (.slice Ac cur.f3.length cc) := blk_cell BK6.out 3; have hf0 : w2.frozen? ⟨w.heap.size + 1, 0, none⟩ = false := blk_frozen BK6.out 0; have hf1 : w2.frozen? ⟨w.heap.size + 1, 1, none⟩ = false := blk_frozen BK6.out 1; have hf2 : w2.frozen? ⟨w.heap.size + 1, 2, none⟩ = false := blk_frozen BK6.out 2; have hf3 : w2.frozen? ⟨w.heap.size + 1, 3, none⟩ = false := blk_frozen BK6.out 3; clear hb2))
          go_roundg (m - (i + 1))
          case measure => have := hi.out.1; omega
          case rel =>
            have hw : wrap64 ((i : Int) + 1) = ((i + 1 : Nat) : Int) := by have := HLIM.out.1; unfold wrap64; omega
            refine ⟨i + 1, v, A3, c3, by rw [hw], ⟨by have := hi.out; omega, by omega⟩, ⟨?_⟩, ⟨?_⟩, HLY, HIYW, ⟨?_⟩, ⟨?_⟩⟩
            · rw [HT1.out, quorum_Best.best_append, ← HCUR.out, if_pos hbv]
            · refine blk_put (cs := #[.int .i64 v.f0, .int .i64 v.f1, .int .i64 v.f2, .slice Ac cur.f3.length cc]) ?_ 3 _ rfl
              refine blk_put (cs := #[.int .i64 v.f0, .int .i64 v.f1, .int .i64 cur.f2, .slice Ac cur.f3.length cc]) ?_ 2 _ rfl
              refine blk_put (cs := #[.int .i64 v.f0, .int .i64 cur.f1, .int .i64 cur.f2, .slice Ac cur.f3.length cc]) ?_ 1 _ rfl
              exact blk_put (cs := #[.int .i64 cur.f0, .int .i64 cur.f1, .int .i64 cur.f2, .slice Ac cur.f3.length cc]) BK6.out 0 _ rfl
            · have hne : w.heap.size ≠ w.heap.size + 1 := by omega
              exact blk_far (blk_far (blk_far (blk_far BKR.out hne _) hne _) hne _) hne _
            · have hge : w.heap.size ≤ w.heap.size + 1 := by omega
              exact below_set (below_set (below_set (below_set HB2.out hge) hge) hge) hge
        · have hbv2 : quorum_Best.better v cur = false := by simpa using hbv
          have HOV := Aside0.mk ((quorum_Best.better_of v cur).trans (by rw [hbv2]))
          go_wp2_with (first | (go_at_call 32; refine (quorum_vote_over.calls v.f0 v.f1 v.f2 _ _ v.f3 cur.f0 cur.f1 cur.f2 _ _ cur.f3 false _ ?s1 ?s2 ?s3 ?s4 HOV.out).mono ?_; (case s1 => exact Kd.C_alloc HIY.out _); (case s2 => exact HLY.out); (case s3 => exact Kd.C_alloc HCC2.out _); (case s4 => exact HLC.out); rintro e w2 ⟨rfl, hb2⟩; have HB2 := Aside0.mk (below_step (below_alloc HB.out _) hb2); have BK8 := Aside0.mk ((hb2.block wr.heap.size (by simp)).trans (x_alloc_new wr (.cells #[.int .i64 v.f0, .int .i64 v.f1, .int .i64 v.f2, .slice A3 v.f3.length c3] 29))); have BK6 := Aside0.mk ((hb2.block (w.heap.size + 1) (by have := blk_lt HBK.out; simp; omega)).trans (blk_alloc HBK.out (.cells #[.int .i64 v.f0, .int .i64 v.f1, .int .i64 v.f2, .slice A3 v.f3.length c3] 29))); have BKR := Aside0.mk ((hb2.block w.heap.size (by have := blk_lt HBK.out; simp; omega)).trans (blk_alloc HRES.out (.cells #[.int .i64 v.f0, .int .i64 v.f1, .int .i64 v.f2, .slice A3 v.f3.length c3] 29))); have hz0 : w2.cell? ⟨wr.heap.size, 0, none⟩ = some (.int .i64 v.f0) := blk_cell BK8.out 0; have hz1 : w2.cell? ⟨wr.heap.size, 1, none⟩ = some (.int .i64 v.f1) := blk_cell BK8.out 1; have hz2 : w2.cell? ⟨wr.heap.size, 2, none⟩ = some (.int .i64 v.f2) := blk_cell BK8.out 2; have hz3 : w2.cell? ⟨wr.heap.size, 3, none⟩ = some (.slice A3 v.f3.length c3) := blk_cell BK8.out 3; have hc0 : w2.cell? ⟨w.heap.size + 1, 0, none⟩ = some (.int .i64 cur.f0) := blk_cell BK6.out 0; have hc1 : w2.cell? ⟨w.heap.size + 1, 1, none⟩ = some (.int .i64 cur.f1) := blk_cell BK6.out 1; have hc2 : w2.cell? ⟨w.heap.size + 1, 2, none⟩ = some (.int .i64 cur.f2) := blk_cell BK6.out 2; have hc3 : w2.cell? ⟨w.heap.size + 1, 3, none⟩ = some (.slice Ac cur.f3.length cc) := blk_cell BK6.out 3; have hf0 : w2.frozen? ⟨w.heap.size + 1, 0, none⟩ = false := blk_frozen BK6.out 0; have hf1 : w2.frozen? ⟨w.heap.size + 1, 1, none⟩ = false := blk_frozen BK6.out 1; have hf2 : w2.frozen? ⟨w.heap.size + 1, 2, none⟩ = false := blk_frozen BK6.out 2; have hf3 : w2.frozen? ⟨w.heap.size + 1, 3, none⟩ = false := blk_frozen BK6.out 3; clear hb2))
          go_roundg (m - (i + 1))
          case measure => have := hi.out.1; omega
          case rel =>
            have hw : wrap64 ((i : Int) + 1) = ((i + 1 : Nat) : Int) := by have := HLIM.out.1; unfold wrap64; omega
            refine ⟨i + 1, cur, Ac, cc, by rw [hw], ⟨by have := hi.out; omega, by omega⟩, ⟨?_⟩, BK6, HLC, HCC, BKR, HB2⟩
            rw [HT1.out, quorum_Best.best_append, ← HCUR.out, if_neg hbv]
      · have hb1 : decide ((i : Int) < (m : Int)) = false := decide_eq_false (by omega)
        have hie : i = m := by have := hi.out; omega
        have HC1 := HCUR.out
        rw [List.take_of_length_le (by rw [hm]; omega)] at HC1
        rw [← HC1] at HQ HLIM
        have HCUR1 := Aside0.mk HC1
        clear HC1
        have hx0' : wr.cell? ⟨w.heap.size + 1, 0, none⟩ = some (.int .i64 cur.f0) := blk_cell HBK.out 0
        have hx1' : wr.cell? ⟨w.heap.size + 1, 1, none⟩ = some (.int .i64 cur.f1) := blk_cell HBK.out 1
        have hx2' : wr.cell? ⟨w.heap.size + 1, 2, none⟩ = some (.int .i64 cur.f2) := blk_cell HBK.out 2
        have hx3' : wr.cell? ⟨w.heap.size + 1, 3, none⟩ = some (.slice Ac cur.f3.length cc) := blk_cell HBK.out 3
        have HCC2 := Aside0.mk (Kd.C_below HCC.out HB.out)
        have HOWN := Aside0.mk (show quorum_vote_own.f cur.f0 cur.f1 cur.f2 cur.f3 = some (cur.f0, cur.f1, cur.f2, cur.f3) from if_pos HLIM.out.2)
        go_wp2_with (first | (go_at_call 33; refine (quorum_vote_own.calls cur.f0 cur.f1 cur.f2 _ _ cur.f3 cur.f0 cur.f1 cur.f2 cur.f3 _ ?s1 ?s2 HOWN.out).mono ?_; (case s1 => exact HCC2.out); (case s2 => exact HLC.out); rintro e w2 ⟨v3, rfl, ho, hb2⟩; have HB2 := Aside0.mk (below_step HB.out hb2); have BKR := Aside0.mk ((hb2.block w.heap.size (blk_lt HRES.out)).trans HRES.out); have hc0 : w2.cell? ⟨w.heap.size, 0, none⟩ = some (.int .i64 0) := blk_cell BKR.out 0; have hc1 : w2.cell? ⟨w.heap.size, 1, none⟩ = some (.int .i64 0) := blk_cell BKR.out 1; have hc2 : w2.cell? ⟨w.heap.size, 2, none⟩ = some (.int .i64 0) := blk_cell BKR.out 2; have hc3 : w2.cell? ⟨w.heap.size, 3, none⟩ = some (.slice none 0 0) := blk_cell BKR.out 3; have hf0 : w2.frozen? ⟨w.heap.size, 0, none⟩ = false := blk_frozen BKR.out 0; have hf1 : w2.frozen? ⟨w.heap.size, 1, none⟩ = false := blk_frozen BKR.out 1; have hf2 : w2.frozen? ⟨w.heap.size, 2, none⟩ = false := blk_frozen BKR.out 2; have hf3 : w2.frozen? ⟨w.heap.size, 3, none⟩ = false := blk_frozen BKR.out 3; obtain ⟨Ao, co, eo⟩ := Kd.R_slice ho; subst eo; have HO := Aside0.mk (Kd.R_lower ho (blk_lt HRES.out |> Nat.le_of_lt)); clear ho hb2))
        obtain ⟨rfl, rfl, rfl, rfl, rfl⟩ := HQ.out
        refine bodyPost_ret (results_ct rfl _ _ w.heap.size 29 #[.int .i64 cur.f0, .int .i64 cur.f1, .int .i64 cur.f2, .slice Ao cur.f3.length co] (0, 0) _ rfl ?_ Try.underlying29 rfl (by kernel_rfl)) rfl ?_
        · refine blk_put (cs := #[.int .i64 cur.f0, .int .i64 cur.f1, .int .i64 cur.f2, .slice none 0 0]) ?_ 3 _ rfl
          refine blk_put (cs := #[.int .i64 cur.f0, .int .i64 cur.f1, .int .i64 0, .slice none 0 0]) ?_ 2 _ rfl
          refine blk_put (cs := #[.int .i64 cur.f0, .int .i64 0, .int .i64 0, .slice none 0 0]) ?_ 1 _ rfl
          exact blk_put (cs := #[.int .i64 0, .int .i64 0, .int .i64 0, .slice none 0 0]) BKR.out 0 _ rfl
        · have hge : w.heap.size ≤ w.heap.size := Nat.le_refl _
          exact ⟨_, rfl, Kd.R_mono (Kd.R_far (p := ⟨w.heap.size, 3, none⟩) (Kd.R_far (p := ⟨w.heap.size, 2, none⟩) (Kd.R_far (p := ⟨w.heap.size, 1, none⟩) (Kd.R_far (p := ⟨w.heap.size, 0, none⟩) (Kd.R_types HO.out BKR.out (by decide)) (fun _ hk => hk.2) _) (fun _ hk => hk.2) _) (fun _ hk => hk.2) _) (fun _ hk => hk.2) _) (fun _ hk => trivial), below_set (below_set (below_set (below_set HB2.out hge) hge) hge) hge⟩
theorem quorum_Commit.maj (n : Nat) (h0 : 1 ≤ n) (hn : n < 4398046511104) (w : World) :
    Calls Try.prog 15 #[.int .i64 (n : Int)] w fun e w' => e = .returned (.int .i64 ((n / 2 + 1 : Nat) : Int)) ∧ Drawn0 w w' := by
  have c2b0 : decide ((n : Int) < 1) = false := decide_eq_false (by omega)
  have hw : IntKind.i64.wrap (IntKind.i64.wrap (Int.tdiv (n : Int) 2) + 1) = ((n / 2 + 1 : Nat) : Int) := by
    rw [Int.tdiv_eq_ediv_of_nonneg (by omega), IntKind.wrap_i64, IntKind.wrap_i64]
    omega
  go_enter Try.func15, Try.ntmps15
  go_wp2
  go_ret
  refine ⟨?_, by repeat (first | exact Drawn0.refl _ | apply Drawn0.step)⟩
  simp [hw]
theorem quorum_Commit.cell_of (w : World) (g : Nat) (cur : Array Value) (ss : List Int) (h : w.heap[g]? = some (.cells cur 3 (0, 0))) (ht : cur.toList.take ss.length = ss.map (Value.int .i64)) (i : Nat) (hi : i < ss.length) :
    w.cell? ⟨g, i, none⟩ = some (.int .i64 (ss.getD i 0)) := by
  have h1 := (holds_of_blockI h ht i (by simpa using hi)).1
  rw [Nat.zero_add] at h1
  rw [h1]
  simp [List.getD_eq_getElem?_getD, List.getElem?_eq_getElem hi, hi]
def quorum_Commit.put (x : Int) : List Int → List Int
  | [] => [x]
  | y :: l => if x ≤ y then x :: y :: l else y :: quorum_Commit.put x l
def quorum_Commit.sorted (l : List Int) : List Int := l.foldr quorum_Commit.put []
theorem quorum_Commit.put_perm (x : Int) (l : List Int) : (quorum_Commit.put x l).Perm (x :: l) := by
  induction l with
  | nil => exact List.Perm.refl _
  | cons y l ih =>
    simp only [quorum_Commit.put]
    split
    · exact List.Perm.refl _
    · exact (ih.cons y).trans (List.Perm.swap _ _ _)
theorem quorum_Commit.put_sorted (x : Int) (l : List Int) (h : l.Pairwise (· ≤ ·)) : (quorum_Commit.put x l).Pairwise (· ≤ ·) := by
  induction l with
  | nil => simp [quorum_Commit.put]
  | cons y l ih =>
    rw [List.pairwise_cons] at h
    simp only [quorum_Commit.put]
    split
    · rename_i hxy
      rw [List.pairwise_cons, List.pairwise_cons]
      refine ⟨fun z hz => ?_, h.1, h.2⟩
      rcases List.mem_cons.1 hz with rfl | hz
      · exact hxy
      · have := h.1 z hz; omega
    · rename_i hxy
      rw [List.pairwise_cons]
      refine ⟨fun z hz => ?_, ih h.2⟩
      rcases List.mem_cons.1 ((quorum_Commit.put_perm x l).mem_iff.1 hz) with rfl | hz
      · omega
      · exact h.1 z hz
theorem quorum_Commit.sorted_perm (l : List Int) : (quorum_Commit.sorted l).Perm l := by
  induction l with
  | nil => exact List.Perm.refl _
  | cons x l ih => exact (quorum_Commit.put_perm x _).trans (ih.cons x)
theorem quorum_Commit.sorted_sorted (l : List Int) : (quorum_Commit.sorted l).Pairwise (· ≤ ·) := by
  induction l with
  | nil => exact List.Pairwise.nil
  | cons x l ih => exact quorum_Commit.put_sorted x _ ih
theorem quorum_Commit.sorted_eq (l : List Int) : (l.mergeSort fun x y => decide (x ≤ y)) = quorum_Commit.sorted l := by
  have h1 : (l.mergeSort fun x y => decide (x ≤ y)).Pairwise (fun x y => decide (x ≤ y) = true) := List.pairwise_mergeSort (fun a b c h1 h2 => by simp at h1 h2 ⊢; omega) (fun a b => by simp; omega) l
  have h2 : (l.mergeSort fun x y => decide (x ≤ y)).Pairwise (· ≤ ·) := h1.imp (fun h => by simpa using h)
  exact ((List.mergeSort_perm l _).trans (quorum_Commit.sorted_perm l).symm).eq_of_pairwise (fun a b _ _ h1 h2 => Int.le_antisymm h1 h2) h2 (quorum_Commit.sorted_sorted l)
def quorum_Commit.f (l0 : List Int) : Option Int := if l0.length = 0 then some 0 else if l0.length < 4398046511104 then some (max ((quorum_Commit.sorted l0).getD (l0.length - (l0.length / 2 + 1)) 0) 0) else none
set_option maxHeartbeats 8000000 in
set_option maxRecDepth 100000 in
theorem quorum_Commit.calls (A0 : Option Addr) (c0 : Nat) (l0 : List Int) (r : Int) (w : World) (hr0 : Kd.C (Kd.int .i64) w A0 l0.length l0) (hc0 : l0.length ≤ c0) (h : quorum_Commit.f l0 = some r) :
    Calls Try.prog 14 #[.slice A0 l0.length c0] w fun e w' => e = .returned (.int .i64 r) ∧ Below w.heap.size w w' := by
  have hu33 := Try.underlying33
  have hu3 := Try.underlying3
  have HR := Aside0.mk hr0
  have HC := Aside0.mk hc0
  clear hr0 hc0
  unfold quorum_Commit.f at h
  by_cases h0 : l0.length = 0
  · rw [if_pos h0] at h
    obtain rfl := Option.some.inj h
    have hb : decide ((l0.length : Int) = 0) = true := decide_eq_true (by omega)
    rw [h0]
    go_enter Try.func14, Try.ntmps14
    go_wp2
    go_ret
    exact ⟨rfl, Below.refl _ _⟩
  rw [if_neg h0] at h
  by_cases hl' : ¬ l0.length < 4398046511104
  · rw [if_neg hl'] at h; cases h
  have hl : l0.length < 4398046511104 := by omega
  rw [if_pos hl] at h
  have hr := Option.some.inj h
  clear h
  have hm : ∀ W : World, (Instr.makeSlice 33 (.int .i64 (l0.length : Int)) (.int .i64 (l0.length : Int))).run Try.prog W = .ok (.slice (some ⟨W.heap.size, 0, none⟩) l0.length l0.length) (W.alloc (.cells (madeCells (Value.int .i64 0).cells l0.length) 3)) := fun W => by
    obtain ⟨i, hi, hz, hs, hb⟩ := info_parts info3
    have h := run_make (P := Try.prog) W 33 3 i (.int .i64 0) hu33 hi hz .i64 .i64 (l0.length : Int) (l0.length : Int) (by omega) (by omega) (by rw [hb]; omega) (by omega)
    simp only [Int.toNat_natCast, hs, Nat.mul_one] at h
    exact h
  have hcp : (Builtin.copy_ #[33, 33] 3 #[.slice (some ⟨w.heap.size, 0, none⟩) l0.length l0.length, .slice A0 l0.length c0]).run Try.prog (w.alloc (.cells (madeCells (Value.int .i64 0).cells l0.length) 3)) = .ok (.int .i64 (l0.length : Int)) (w.alloc (.cells (l0.map (Value.int .i64)).toArray 3)) := by
    obtain ⟨i, hi, hz, hs, hb⟩ := info_parts info3
    exact x_copy_fresh (P := Try.prog) (Value.int .i64) (0 : Int) (fun _ => rfl) w 33 33 3 3 3 hu33 (by rw [hi]; simp [hs]) A0 l0.length c0 (madeCells (Value.int .i64 0).cells l0.length) (size_madeCells _ _) l0 (Kd.C_alloc HR.out _)
  have hsl : (quorum_Commit.sorted l0).length = l0.length := (quorum_Commit.sorted_perm l0).length_eq
  obtain ⟨ss, hss⟩ : ∃ ss, ss = quorum_Commit.sorted l0 := ⟨_, rfl⟩
  rw [← hss] at hsl hr
  obtain ⟨v, hv⟩ : ∃ v, v = ss.getD (l0.length - (l0.length / 2 + 1)) 0 := ⟨_, rfl⟩
  rw [← hv] at hr
  have HSORT : Aside0 (∀ W : World, W.heap[w.heap.size]? = some (.cells (l0.map (Value.int .i64)).toArray 3 (0, 0)) → Calls Try.prog 34 #[.slice (some ⟨w.heap.size, 0, none⟩) l0.length l0.length] W fun e w' => e = .returned (.tuple #[]) ∧ W.grownBy w' (some w.heap.size) ∧ ∃ cur, w'.heap[w.heap.size]? = some (.cells cur 3 (0, 0)) ∧ cur.toList.take ss.length = ss.map (Value.int .i64)) := ⟨fun W hW => by
    have hH := holds_of_blockI (ss := l0) hW (List.take_of_length_le (by simp))
    have hlt : w.heap.size < W.heap.size := (Array.getElem?_eq_some_iff.1 hW).1
    refine (Shelf.slices_Sort_int w.heap.size 0 l0.length l0 W hH hlt (by omega)).mono ?_
    rintro e w' ⟨rfl, nd, os, rfl⟩
    refine ⟨rfl, grownBy_sortedI _, _, heap_sortedI _ hW, ?_⟩
    rw [show (l0.mergeSort fun x y => decide (x ≤ y)) = ss from (quorum_Commit.sorted_eq l0).trans hss.symm]
    exact take_putCellsI _ ss (by simp [hsl])⟩
  generalize hcs : (l0.map (Value.int .i64)).toArray = cs at *
  generalize hn : l0.length = n at *
  generalize hc : madeCells (Value.int .i64 0).cells n = mc at *
  have hz0 : decide ((n : Int) = 0) = false := decide_eq_false (by omega)
  have HM := Aside0.mk (quorum_Commit.maj n (by omega) hl)
  have HV := Aside0.mk hv
  clear hv hss
  go_enter Try.func14, Try.ntmps14
  go_wp2_with (first | (go_at_call 34; refine (HSORT.out _ ?aH).mono ?_; (case aH => exact x_alloc_new _ _); rintro e w1 ⟨rfl, hg1, cur, hcur, htk⟩; have HG1 := Aside0.mk hg1; have hcell := quorum_Commit.cell_of w1 w.heap.size cur ss hcur htk (n - (n / 2 + 1)) (by omega); rw [← HV.out] at hcell; clear hg1 hcur htk) | (go_at_call 15; refine (HM.out _).mono ?_; rintro e w' ⟨rfl, ⟨nd, rfl⟩⟩))
  all_goals (go_ret; refine ⟨?_, ?_⟩)
  · rw [← hr, show max v 0 = 0 by omega]; rfl
  · exact pw_below_drewN (Below.grown (below_alloc (Below.refl w.heap.size w) (.cells cs 3)) HG1.out (by simp) (fun k hk => by injection hk with hk; omega)) _
  · rw [← hr, show max v 0 = v by omega]; rfl
  · exact pw_below_drewN (Below.grown (below_alloc (Below.refl w.heap.size w) (.cells cs 3)) HG1.out (by simp) (fun k hk => by injection hk with hk; omega)) _
def quorum_Majority.f (a0 : Int) : Option (Int) := if a0 < 1 then (some 0) else (some (wrap64 ((wrap64 (Int.tdiv a0 2)) + 1)))
set_option maxHeartbeats 8000000 in
set_option maxRecDepth 100000 in
theorem quorum_Majority.calls (a0 : Int) (r : Int) (w : World) (h : quorum_Majority.f a0 = some r) :
    Calls Try.prog 15 #[.int .i64 a0] w fun e w' => e = .returned (.int .i64 r) ∧ Drawn0 w w' := by
  have H : (if a0 < 1 then (some 0) else (some (wrap64 ((wrap64 (Int.tdiv a0 2)) + 1)))) = some r := h
  clear h
  by_cases c2 : a0 < 1
  · rw [if_pos c2] at H
    have c2b0 : decide (a0 < 1) = true := decide_eq_true c2
    clear c2
    obtain rfl := Option.some.inj H
    go_enter Try.func15, Try.ntmps15
    go_wp2
    go_ret
    exact ⟨by first | rfl | (simp; done) | (simp [*]; done), by repeat (first | exact Drawn0.refl _ | apply Drawn0.step)⟩
  · rw [if_neg c2] at H
    have c2b0 : decide (a0 < 1) = false := decide_eq_false c2
    clear c2
    obtain rfl := Option.some.inj H
    go_enter Try.func15, Try.ntmps15
    go_wp2
    go_ret
    exact ⟨by first | rfl | (simp; done) | (simp [*]; done), by repeat (first | exact Drawn0.refl _ | apply Drawn0.step)⟩
def quorum_Primary.f (a0 : Int) (a1 : Int) : Option (Int × Bool) := if a0 < 0 then (some (0, false)) else (if a1 < 1 then (some (0, false)) else (if a1 = 0 then (none) else (some (Int.tmod a0 a1, true))))
set_option maxHeartbeats 8000000 in
set_option maxRecDepth 100000 in
theorem quorum_Primary.calls (a0 : Int) (a1 : Int) (r1 : Int) (r2 : Bool) (w : World) (h : quorum_Primary.f a0 a1 = some (r1, r2)) :
    Calls Try.prog 18 #[.int .i64 a0, .int .i64 a1] w fun e w' => e = .returned (.tuple #[.int .i64 r1, .bool r2]) ∧ Drawn0 w w' := by
  have H : (if a0 < 0 then (some (0, false)) else (if a1 < 1 then (some (0, false)) else (if a1 = 0 then (none) else (some (Int.tmod a0 a1, true))))) = some (r1, r2) := h
  clear h
  by_cases c3 : a0 < 0
  · rw [if_pos c3] at H
    have c3b0 : decide (a0 < 0) = true := decide_eq_true c3
    clear c3
    simp only [Option.some.injEq, Prod.mk.injEq] at H
    obtain ⟨rfl, rfl⟩ := H
    go_enter Try.func18, Try.ntmps18
    go_wp2
    go_ret2
    exact ⟨by first | rfl | (simp; done) | (simp [*]; done), by repeat (first | exact Drawn0.refl _ | apply Drawn0.step)⟩
  · rw [if_neg c3] at H
    have c3b0 : decide (a0 < 0) = false := decide_eq_false c3
    clear c3
    by_cases c4 : a1 < 1
    · rw [if_pos c4] at H
      have c4b0 : decide (a1 < 1) = true := decide_eq_true c4
      clear c4
      simp only [Option.some.injEq, Prod.mk.injEq] at H
      obtain ⟨rfl, rfl⟩ := H
      go_enter Try.func18, Try.ntmps18
      go_wp2
      go_ret2
      exact ⟨by first | rfl | (simp; done) | (simp [*]; done), by repeat (first | exact Drawn0.refl _ | apply Drawn0.step)⟩
    · rw [if_neg c4] at H
      have c4b0 : decide (a1 < 1) = false := decide_eq_false c4
      clear c4
      by_cases c5 : a1 = 0
      · rw [if_pos c5] at H
        exact absurd H (by simp)
      · rw [if_neg c5] at H
        have c5b0 : (a1 == 0) = false := beq_eq_false_iff_ne.mpr c5
        have c5b1 : (a1 != 0) = true := bne_iff_ne.mpr c5
        simp only [Option.some.injEq, Prod.mk.injEq] at H
        obtain ⟨rfl, rfl⟩ := H
        go_enter Try.func18, Try.ntmps18
        go_wp2
        go_ret2
        exact ⟨by first | rfl | (simp; done) | (simp [*]; done), by repeat (first | exact Drawn0.refl _ | apply Drawn0.step)⟩
end Go.Proofs.Ytgphefohdbgokaa.P
end
