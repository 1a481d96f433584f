/- Lemmas of this session's own that the walks of library functions lean on: copies of rows of elements of several cells, a slice against nil, an empty literal. -/
import Derived.Test.YtkdpjgcimnchlaaWMore
import Derived.Test.YtkdpjgcimnchlaaWKept
import Derived.Test.YtkdpjgcimnchlaaWNEv
import Derived.Test.YtkdpjgcimnchlaaWArr
import Derived.Lib.SliceRun
import Derived.Lib.Overlaps
import Derived.Lib.AppendZerosOnto
import Derived.Laws.CopyRow
import Derived.Laws.CopyOwn
import Derived.Laws.IdiomCopy
import Derived.Laws.Externs
import Derived.Deep.RegionLaw
set_option linter.unusedVariables false
set_option linter.unusedSimpArgs false
namespace Go.Proofs.YtkdpjgcimnchlaaW.PrintMore
open Go.RowKit Go.Proofs.YtkdpjgcimnchlaaW.PrintWords Go.Proofs.YtkdpjgcimnchlaaW.PrintLast
variable {P : Program}

/-- A slice against nil. -/
theorem x_eql_nil (t e : TypeId) (h : P.underlying t = some (.slice e)) (a : Option Addr) (n c : Nat) : ∀ w : World, (binOp .eql t (.slice a n c) (.slice none 0 0)).run P w = .ok (.bool a.isNone) w :=
  fun w => Lib.run_eql_slice_nil w t e a n c 0 0 h
/-- '[]T{}'. -/
theorem Kd.R_empty {α : Type} (d : Kd α) (e : Nat) (W : World) (base : Nat) (ok : Nat → Prop) (hb : base ≤ W.heap.size) (hok : ok W.heap.size) : d.R e (W.alloc (.cells #[] e)) base ok (.slice (some ⟨W.heap.size, 0, none⟩) 0 0) [] := by
  refine ⟨fun k hk => ?_, [], ?_, Reps.none _ _⟩
  · have : W.heap.size = k := by simpa [Value.ownBlock] using hk
    subst this
    exact hok
  · have h2 := World.ownsRow_lit (base := base) (e := e) (size := d.sz) W #[] 0 hb (by simp [maxLen]) (by simp)
    simpa using h2

/-- copy(d, s) over a row that is known whole, elements of k cells. -/
theorem run_copy_k (w : World) (dT sT ty elem : TypeId) (k g o dLen dCap : Nat) (a : Addr) (sLen sCap : Nat) (cur : Array Value) (t : TypeId) (cs : List Value)
    (hu : P.underlying dT = some (.slice elem)) (hs : (P.info? elem).map (·.size) = some k)
    (hg : w.heap[g]? = some (.cells cur t (0, 0))) (hn : cs.length = Nat.min sLen dLen * k)
    (hsrc : ∀ j v, cs[j]? = some v → w.cell? (a.add j) = some v) (hfit : o + cs.length ≤ cur.size) (h1 : ∀ v ∈ cs, v.oneCell' = true) :
    (Builtin.copy_ #[dT, sT] ty #[.slice (some ⟨g, o, none⟩) dLen dCap, .slice (some a) sLen sCap]).run P w =
      .ok (goInt (Nat.min sLen dLen)) (w.setRow g (cur.toList.take o ++ cs ++ cur.toList.drop (o + cs.length)).toArray) := by
  have hl := run_loadCells_list (P := P) w a cs hsrc
  have hst := run_storeCells_at P g o t cs 0 cur w hg (by simpa using hfit) h1
  cases hq : P.info? elem with
  | none => simp [hq] at hs
  | some i =>
    have hi : i.size = k := by simpa [hq] using hs
    simp [Builtin.copy_, run_underlying hu, Builtin.lenOf, Builtin.firstCells, sizeOf, typeInfo, hq, hi, ← hn, hl, hst]
/-- The operation, where its run is known. -/
theorem wpList_copy_run (w : World) {ops : Array Oper} {rest : List Oper} {o : Oper} {a : Act} {Q : Exit → Act → World → Prop} (hgd : o.guard = none) (d s : Operand) (t t' : TypeId)
    (ho : o.op = .call { callee := .builtin .copy, args := #[d, s], argTypes := #[t, t'] }) (v u : Value) (hd : a.eval d = v) (hs : a.eval s = u) {v' : Value} {w' : World}
    (hr : (Builtin.copy_ #[t, t'] o.type #[v, u]).run P w = .ok v' w') (h : wpList P ops Q rest (a.put o.dst v') w') : wpList P ops Q (o :: rest) a w := by
  refine wpList_plain hgd fun K hK => ?_
  unfold Oper.wp execOp
  simp only [ho, resolve, invoke, builtin, Sem.run_bind, Sem.run_pure, Result.andThen_ok, List.map_toArray, List.map_cons, List.map_nil, hd, hs, hr]
  exact hK _ _ h
/-- .. and as one step of a region that draws. -/
theorem step_copy_run {ops : Array Oper} {o : Oper} {a : Act} {w : World} {K : Act → World → Prop} {Q : Exit → Act → World → Prop} {E : Prop}
    (hg : o.guard = none) (d x : Operand) (dT sT : TypeId) (hop : o.op = Op.call { callee := Callee.builtin Builtin.copy, args := #[d, x], argTypes := #[dT, sT] })
    (v u : Value) (hd : a.eval d = v) (hx : a.eval x = u) {v' : Value} {w' : World} (hr : (Builtin.copy_ #[dT, sT] o.type #[v, u]).run P w = .ok v' w') (hK : K (a.put o.dst v') w') :
    if Region.wanted o (yielded ops a.tmps) = true then Oper.wp P o a w K Q else E := by
  have hw : Region.wanted o (yielded ops a.tmps) = true := by simp [Region.wanted, hg]
  rw [if_pos hw]
  unfold Oper.wp
  simp [execOp, hop, resolve, invoke, builtin, hd, hx, hr, Result.andThen]
  exact hK
theorem x_setRow_heap (w : World) (g : Nat) (cur cs : Array Value) (t : TypeId) (fr : Nat × Nat) (hg : w.heap[g]? = some (.cells cur t fr)) : (w.setRow g cs).heap[g]? = some (.cells cs t fr) := setRow_heap w g cur cs t fr hg
theorem x_setRow_size (w : World) (g : Nat) (cs : Array Value) : (w.setRow g cs).heap.size = w.heap.size := by simp [World.setRow]
theorem x_row_of_cells {α : Type} (d : Kd α) (e : Nat) (W : World) (base : Nat) (ok : Nat → Prop) (g cap : Nat) (cur : Array Value) (xs : List α) (inner : List Value) (hb : base ≤ g) (hh : W.heap[g]? = some (.cells cur e (0, 0))) (hn : xs.length ≤ cap) (hc : cap ≤ maxLen)
    (hs : cur.size = cap * d.sz) (ht : cur.toList.take (xs.length * d.sz) = inner) (hr : Reps (d.M W base (fun k => ok k ∧ some k ≠ (Value.slice (some ⟨g, 0, none⟩) xs.length cap).ownBlock)) d.sz xs inner) (hok : ok g) : d.R e W base ok (.slice (some ⟨g, 0, none⟩) xs.length cap) xs := by
  refine ⟨fun k hk => ?_, inner, ⟨hr.1, .inr ⟨g, cap, cur, rfl, hb, hh, hn, hc, hs, ht⟩⟩, hr⟩
  have : g = k := by simpa [Value.ownBlock] using hk
  rw [← this]; exact hok
theorem x_own_some {w : World} {base e size n : Nat} {v : Value} {xs : List Value} (h : w.ownsRow base e size v n xs) (hn : 0 < n) : ∃ g cap cur, v = .slice (some ⟨g, 0, none⟩) n cap ∧ base ≤ g ∧ w.heap[g]? = some (.cells cur e (0, 0)) ∧ n ≤ cap ∧ cap ≤ maxLen ∧ cur.size = cap * size ∧ cur.toList.take (n * size) = xs := by
  rcases h.2 with ⟨_, h0⟩ | h
  · omega
  · exact h
/-- A row that a call has made and filled, elements of one cell. -/
theorem x_R_scalar {α : Type} (enc : α → Value) (h1 : ∀ x, (enc x).oneCell' = true) (e : Nat) (W : World) (base : Nat) (ok : Nat → Prop) (g : Nat) (xs : List α) (hb : base ≤ g) (hh : W.heap[g]? = some (.cells (xs.map enc).toArray e (0, 0))) (hc : xs.length ≤ maxLen) (hok : ok g) :
    (Kd.scalar enc h1).R e W base ok (.slice (some ⟨g, 0, none⟩) xs.length xs.length) xs := by
  refine x_row_of_cells (Kd.scalar enc h1) e W base ok g xs.length (xs.map enc).toArray xs (xs.map enc) hb hh (Nat.le_refl _) hc (by simp [Kd.scalar]) (by simp only [Kd.scalar, Nat.mul_one]; exact List.take_of_length_le (by simp)) ⟨by simp [Kd.scalar], fun j p hj => ?_⟩ hok
  show _ = [enc p]
  obtain ⟨hl, rfl⟩ := List.getElem?_eq_some_iff.1 hj
  simp only [Kd.scalar, Nat.mul_one]
  rw [List.drop_eq_getElem_cons (by simpa using hl)]
  simp
/-- copy of a whole row into one of the same length that has just been made. -/
theorem x_copy_fresh {α : Type} (enc : α → Value) (d : α) (h1 : ∀ x, (enc x).oneCell' = true) (W : World) (dT sT ty elem e : TypeId) (hu : P.underlying dT = some (.slice elem)) (hs : (P.info? elem).map (·.size) = some 1)
    (A : Option Addr) (n c : Nat) (mc : Array Value) (hmc : mc.size = n) (xs : List α) (hr : (Kd.scalar enc h1).C (W.alloc (.cells mc e)) A n xs) :
    (Builtin.copy_ #[dT, sT] ty #[.slice (some ⟨W.heap.size, 0, none⟩) n n, .slice A n c]).run P (W.alloc (.cells mc e)) = .ok (goInt n) (W.alloc (.cells (xs.map enc).toArray e)) := by
  have hr' := Kd.reads_of_C (d := d) hr
  rcases Nat.eq_zero_or_pos n with h0 | h0
  · subst h0
    have hx : xs = [] := List.eq_nil_of_length_eq_zero hr'.1
    have hm : mc = #[] := Array.eq_empty_of_size_eq_zero hmc
    subst hx; subst hm
    rw [run_copy_none (P := P) _ dT sT ty elem _ _ 0 0 0 c hu hs (by simp)]
    rfl
  · obtain ⟨ad, rfl, hc⟩ := hr'.2.2 h0
    have hg : (W.alloc (.cells mc e)).heap[W.heap.size]? = some (.cells mc e (0, 0)) := by show (W.heap.push _)[W.heap.size]? = _; simp
    have h := run_copy_row (P := P) (W.alloc (.cells mc e)) dT sT ty elem W.heap.size 0 n n ad n c mc e (xs.map enc) hu hs hg (by simp [hr'.1]) (fun j v hj => by
      rw [List.getElem?_map] at hj
      cases hq : xs[j]? with
      | none => rw [hq] at hj; cases hj
      | some y =>
        rw [hq] at hj
        obtain ⟨hl, hy⟩ := List.getElem?_eq_some_iff.1 hq
        have h2 := hc j (by have := hr'.1; omega)
        rw [List.getD_eq_getElem?_getD, hq] at h2
        simp only [Option.map_some, Option.some.injEq] at hj
        rw [← hj]
        exact h2) (by simp [hr'.1]; omega) (fun v hv => by
      obtain ⟨x, _, rfl⟩ := List.mem_map.1 hv
      exact h1 x)
    rw [h]
    have hl : (xs.map enc).length = n := by simp [hr'.1]
    have hd : mc.toList.drop (0 + (xs.map enc).length) = [] := by rw [List.drop_eq_nil_iff]; simp [hr'.1, hmc]
    rw [hd, hl]
    have hq : (W.alloc (.cells mc e)).setRow W.heap.size (xs.map enc).toArray = W.alloc (.cells (xs.map enc).toArray e) := by
      show ({ W with heap := _ } : World) = { W with heap := _ }
      congr 1
      show (W.heap.push _).modify W.heap.size _ = W.heap.push _
      apply Array.ext_getElem?
      intro i
      rw [Array.getElem?_modify]
      simp only [Array.getElem?_push]
      by_cases hi : W.heap.size = i
      · subst hi; simp
      · have hi2 : ¬ i = W.heap.size := fun h => hi h.symm
        simp [hi, hi2]
    simpa using congrArg (fun w' => Result.ok (goInt n) w') hq
theorem x_alloc_new (w : World) (o : Obj) : (w.alloc o).heap[w.heap.size]? = some o := by
  show (w.heap.push o)[w.heap.size]? = some o
  simp
end Go.Proofs.YtkdpjgcimnchlaaW.PrintMore
