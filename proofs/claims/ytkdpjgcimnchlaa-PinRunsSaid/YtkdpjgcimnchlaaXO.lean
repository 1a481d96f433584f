/- What can be read as data of a type is of a kind: opening a law's arguments, whatever their types: whole numbers, bools, strings, structs, slices of such. -/
import Derived.Test.YtkdpjgcimnchlaaX
import Derived.ProofKit
import Derived.OpenShut
import Derived.ShutString
import Derived.ChangeOld
import Derived.SizedLaws
import Derived.Deep.Slices
import Derived.ChangeArms
set_option linter.unusedVariables false
set_option linter.unusedSimpArgs false
namespace Go.Proofs.YtkdpjgcimnchlaaW.PrintMore
open Go.RowKit Go.Proofs.YtkdpjgcimnchlaaW.PrintWords Go.Proofs.YtkdpjgcimnchlaaW.PrintLast Go.ChangeShapes Go.WideShapes Go.ChangeAt
variable {P : Program} {α : Type}

/-- Whatever reads as data of type t is a value of this kind, and what is known of it besides. -/
def Opens (P : Program) (t : TypeId) (d : Kd α) (B : α → Prop) : Prop :=
  ∀ {H : Type} (enc : TypeId × Value → H) (w : World) (base : Nat) (spare : Nat → Bool) (held : Bool) (fuel : Nat) (cs : List Value) (x : DataW H × List MemPlace),
    DataW.trod enc P w base spare held fuel t cs = some x → ∃ y : α, d.K w y cs ∧ B y
theorem Opens.int {t : TypeId} {k : IntKind} (ht : P.underlying t = some (.int k)) : Opens P t (Kd.int k) (fun y => (Lit.int k y).wf = true) := by
  intro H enc w base spare held fuel cs x h
  obtain ⟨n, rfl, _, hw⟩ := DataW.trod_int ht h
  exact ⟨n, rfl, hw⟩
theorem Opens.bool {t : TypeId} (ht : P.underlying t = some .bool) : Opens P t Kd.bool (fun _ => True) := by
  intro H enc w base spare held fuel cs x h
  obtain ⟨n, rfl, _⟩ := DataW.trod_bool ht h
  exact ⟨n, rfl, trivial⟩
theorem Opens.string {t : TypeId} (ht : P.underlying t = some .string) : Opens P t Kd.string (fun s => s.size ≤ maxLen) := by
  intro H enc w base spare held fuel cs x h
  obtain ⟨n, rfl, _, hs⟩ := DataW.trod_string ht h
  exact ⟨n, rfl, hs⟩
theorem Opens.slice {t e : TypeId} {d : Kd α} {B : α → Prop} (hd : Opens P e d B) (ht : P.underlying t = some (.slice e)) (hc : P.cellsOf e = d.sz) : Opens P t (Kd.slice e d) (fun xs => ∀ y ∈ xs, B y) := by
  intro H enc w base spare held fuel cs x h
  rcases Go.Deep.open_slice ht h with ⟨rfl, _⟩ | ⟨a, len, cap, m, n, D, Pl, rfl, hb, hl, hm, hmm, _, hx⟩
  · exact ⟨[], ⟨none, 0, rfl, Nat.le_refl _, Kd.C_nil d w⟩, by simp⟩
  · have hlm : len ≤ m := by rw [hmm]; split <;> omega
    have hy : ∀ i : Fin len, ∃ y : α, ∃ cs', w.cells? base (a.add (i.1 * P.cellsOf e)) (P.cellsOf e) = some cs' ∧ d.K w y cs' ∧ B y := fun i => by
      obtain ⟨cs', h1, h2⟩ := hx i.1 (by omega)
      obtain ⟨y, hK, hB⟩ := hd enc w base spare held n cs' _ h2
      exact ⟨y, cs', h1, hK, hB⟩
    refine ⟨List.ofFn fun i => Classical.choose (hy i), ⟨some a, cap, by simp, by simpa using hl, by simp, by simp only [List.length_ofFn]; unfold maxLen at hm; omega, fun _ => ⟨a, rfl, fun j p hj => ?_⟩⟩, fun y hy' => ?_⟩
    · obtain ⟨hjl, hp⟩ := List.getElem?_eq_some_iff.1 hj
      have hjl' : j < len := by simpa using hjl
      obtain ⟨cs', h1, hK, _⟩ := Classical.choose_spec (hy ⟨j, hjl'⟩)
      have hp' : Classical.choose (hy ⟨j, hjl'⟩) = p := by rw [← hp]; simp
      rw [hp'] at hK
      obtain ⟨_, hlen, hcell⟩ := World.cells?_some h1
      refine ⟨cs', by rw [hlen, hc], hK, fun i u hu => ?_⟩
      have hi : i < cs'.length := (List.getElem?_eq_some_iff.1 hu).1
      have h3 := hcell i (by omega)
      rw [Go.Deep.add_add, hc] at h3
      rw [h3, hu]
    · obtain ⟨i, hi⟩ := (List.mem_ofFn).1 hy'
      obtain ⟨cs', h1, _, hB⟩ := Classical.choose_spec (hy i)
      rw [← hi]
      exact hB
theorem Opens.sized {t e : TypeId} {d : Kd α} {B : List α → Prop} (hd : Opens P t (Kd.slice e d) B) : Opens P t (Kd.slice e d) (fun xs => xs.length ≤ 9223372036854775807 ∧ B xs) := by
  intro H enc w base spare held fuel cs x h
  obtain ⟨xs, hK, hB⟩ := hd enc w base spare held fuel cs x h
  obtain ⟨A, c, hcs, hl, hC⟩ := hK
  exact ⟨xs, ⟨A, c, hcs, hl, hC⟩, hC.2.1, hB⟩
/-- An argument that is a slice. -/
theorem Opens.arg_slice {H : Type} {enc : TypeId × Value → H} {t e : TypeId} {d : Kd α} {B : List α → Prop} (hd : Opens P t (Kd.slice e d) B) (ht : P.underlying t = some (.slice e)) {w : World} {base b0 : Nat} {r : Reach} {spare : Nat → Bool} {held : Bool} {v : Value} {y : DataW H} {ps : List MemPlace}
    (hv : Value.okWide P w r b0 t v) (h : DataW.Trod enc P w base spare held t v y ps) : ∃ A c xs, v = .slice A xs.length c ∧ xs.length ≤ c ∧ d.C w A xs.length xs ∧ B xs := by
  obtain ⟨a, len, cap, rfl⟩ := okWide_slice ht hv
  obtain ⟨fuel, hf⟩ := h
  obtain ⟨xs, ⟨A, c, hcs, hl, hC⟩, hB⟩ := hd enc w base spare held fuel _ _ hf
  have hcs' : [Value.slice a len cap] = [Value.slice A xs.length c] := by simpa [Value.cells] using hcs
  injection hcs' with hcs' _
  exact ⟨A, c, xs, hcs', hl, hC, hB⟩
/-- An argument that is a struct. -/
theorem Opens.arg_struct {H : Type} {enc : TypeId × Value → H} {t : TypeId} {fs : Array Field} {d : Kd α} {B : α → Prop} (hd : Opens P t d B) (ht : P.underlying t = some (.struct fs)) {w : World} {base b0 : Nat} {r : Reach} {spare : Nat → Bool} {held : Bool} {v : Value} {y : DataW H} {ps : List MemPlace}
    (hv : Value.okWide P w r b0 t v) (h : DataW.Trod enc P w base spare held t v y ps) : ∃ cs x, v = .agg (List.toArray cs) ∧ d.K w x cs ∧ B x := by
  obtain ⟨cs, rfl, hsz⟩ := okWide_struct ht hv
  obtain ⟨fuel, hf⟩ := h
  obtain ⟨x, hK, hB⟩ := hd enc w base spare held fuel _ _ hf
  refine ⟨cs.toList, x, by simp, ?_, hB⟩
  simpa [Value.cells] using hK
/-- A field of a struct, by its number. -/
theorem x_field {H : Type} {enc : TypeId × Value → H} {w : World} {base : Nat} {spare : Nat → Bool} {held : Bool} {n : Nat} {fs : Array Field} {xs : List (DataW H × List MemPlace)} {cs : List Value} (hx : xs.length = fs.size)
    (hf : ∀ (i : Nat) (f : Field), fs[i]? = some f → DataW.trod enc P w base spare held n f.type ((cs.drop f.offset).take (P.cellsOf f.type)) = xs[i]?) (i : Nat) (f : Field) (h : fs[i]? = some f) :
    ∃ x, DataW.trod enc P w base spare held n f.type ((cs.drop f.offset).take (P.cellsOf f.type)) = some x := by
  have hi : i < xs.length := by
    rw [hx]
    rcases Nat.lt_or_ge i fs.size with h' | h'
    · exact h'
    · rw [Array.getElem?_eq_none h'] at h; cases h
  exact ⟨xs[i], (hf i f h).trans (List.getElem?_eq_getElem hi)⟩
/-- .. and its own reading. -/
theorem Opens.field {H : Type} {t : TypeId} {d : Kd α} {B : α → Prop} (hd : Opens P t d B) {enc : TypeId × Value → H} {w : World} {base : Nat} {spare : Nat → Bool} {held : Bool} {n : Nat} {cs : List Value} {x : DataW H × List MemPlace} (h : DataW.trod enc P w base spare held n t cs = some x) : ∃ y, d.K w y cs ∧ B y := hd enc w base spare held n cs x h
end Go.Proofs.YtkdpjgcimnchlaaW.PrintMore
