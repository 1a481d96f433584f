-- printed by a program of this session (wip/tools/xprint.py) over the translation; not trusted: Lean checks it
import Derived.Test.YtkdpjgcimnchlaaPx0
import Derived.Test.YtkdpjgcimnchlaaPx2
import Derived.Test.YtkdpjgcimnchlaaPx3
namespace Go.Proofs.Ytkdpjgcimnchlaa.P
open Go.RowKit Go.Proofs.YtkdpjgcimnchlaaW.PrintWords Go.Proofs.YtkdpjgcimnchlaaW.PrintLast Go.Proofs.YtkdpjgcimnchlaaW.PrintMore
attribute [local go_sem] max2_int min2_int max_two min_two max_three min_three max_four min_four   -- for this text's walks alone
set_option linter.unusedVariables false
set_option linter.unusedSimpArgs false

/-! ### pin_place: function 24 (given) -/
-- given making: yes
-- given info: 24
set_option maxHeartbeats 8000000 in
set_option maxRecDepth 100000 in
theorem pin_place.has (s a b : Int) (w : World) :
    Calls Try.prog 32 #[.int .i64 s, .agg #[.int .i64 a, .int .i64 b]] w fun e w' => e = .returned (.bool (a == s)) ∧ Below w.heap.size w w' := by
  have hu24 := Try.underlying24
  go_enter Try.func32, Try.ntmps32
  go_wp2
  go_ret
  exact ⟨by first | rfl | (simp; done), by repeat (first | exact Below.refl _ _ | apply below_alloc)⟩
/-- Where the first one of a session stands, or -1. -/
def pin_place.at (l : List S24) (s : Int) : Int := if l.any (fun p => p.f0 == s) then ((l.findIdx (fun p => p.f0 == s) : Nat) : Int) else -1
theorem pin_place.at_here (l : List S24) (s : Int) (i : Nat) (hi : i < l.length) (h0 : ∀ p ∈ l.take i, (p.f0 == s) = false) (h : (l[i].f0 == s) = true) : pin_place.at l s = (i : Int) := by
  unfold pin_place.at
  rw [if_pos (List.any_eq_true.2 ⟨_, List.getElem_mem hi, h⟩)]
  have h2 : l.findIdx (fun p => p.f0 == s) = i := by
    rw [List.findIdx_eq hi]
    refine ⟨h, fun j hj => ?_⟩
    have hm : l[j] ∈ l.take i := by
      rw [List.mem_take_iff_getElem]
      exact ⟨j, by omega, rfl⟩
    simpa using h0 _ hm
  rw [h2]
theorem pin_place.at_none (l : List S24) (s : Int) (h0 : ∀ p ∈ l, (p.f0 == s) = false) : pin_place.at l s = -1 := by
  unfold pin_place.at
  rw [if_neg]
  intro h
  obtain ⟨p, hp, hp2⟩ := List.any_eq_true.1 h
  rw [h0 p hp] at hp2
  cases hp2
set_option maxHeartbeats 8000000 in
set_option maxRecDepth 100000 in
theorem pin_place.idx (A0 : Option Addr) (c0 : Nat) (l0 : List S24) (s : Int) (hl : l0.length < 4398046511104) (w : World) (hr0 : Kd.C k24 w A0 l0.length l0) :
    Calls Try.prog 33 #[.slice A0 l0.length c0, .func (.func 32) #[.int .i64 s] #[]] w fun e w' => e = .returned (.int .i64 (pin_place.at l0 s)) ∧ Below w.heap.size w w' := by
  have hu24 := Try.underlying24
  have HR := Aside0.mk hr0
  have HL := Aside0.mk hl
  clear hr0 hl
  go_enter Try.func33, Try.ntmps33
  go_wp2
  go_loopg [8] l0.length (fun kq v8 w' => ∃ (i : Nat), v8 = .int .i64 (i : Int) ∧ Aside0 (kq = l0.length - i ∧ i ≤ l0.length) ∧ Aside0 (∀ p ∈ l0.take i, (p.f0 == s) = false) ∧ Aside0 (Below w.heap.size w w'))
  case atStart => exact ⟨0, rfl, ⟨by simp⟩, ⟨by simp⟩, ⟨Below.refl _ _⟩⟩
  case round =>
    obtain ⟨i, rfl, hi, HN, HB⟩ := hrel
    by_cases hlt : i < l0.length
    · have hb1 : decide ((i : Int) < (l0.length : Int)) = true := decide_eq_true (by omega)
      have p1 : (0 : Int) ≤ (i : Int) := by omega
      have q1 : (i : Int) < (l0.length : Int) := by omega
      obtain ⟨ad, rfl, hx0, hx1⟩ := at_T24 HR.out (i : Int) p1 q1
      simp only [Int.toNat_natCast] at hx0 hx1
      replace hx0 := (HB.out.cell (World.block_lt_of_cell? w _ hx0)).trans hx0
      replace hx1 := (HB.out.cell (World.block_lt_of_cell? w _ hx1)).trans hx1
      have hrd : rd_T24 l0 (i : Int) = l0[i] := by simp [rd_T24, List.getD_eq_getElem?_getD, List.getElem?_eq_getElem hlt]
      rw [hrd] at hx0 hx1
      have HT1 := Aside0.mk (show l0.take (i + 1) = l0.take i ++ [l0[i]] from List.take_succ_eq_append_getElem hlt)
      have HH := Aside0.mk (fun h => pin_place.at_here l0 s i hlt HN.out h)
      replace p1 := eq_true p1
      replace q1 := eq_true q1
      clear hrd
      generalize hv : l0[i] = v at *
      clear hv
      have HHAS := Aside0.mk (pin_place.has s v.f0 v.f1)
      by_cases hbv : (v.f0 == s) = true
      · have HANS := Aside0.mk (HH.out hbv)
        rw [hbv] at HHAS
        go_wp2_with (first | (go_at_call 32; refine (HHAS.out _).mono ?_; rintro e w2 ⟨rfl, hb2⟩; have HB2 := Aside0.mk (below_step HB.out hb2); clear hb2))
        go_ret
        exact ⟨by rw [HANS.out]; rfl, HB2.out⟩
      · have hbv2 : (v.f0 == s) = false := by simpa using hbv
        have HBV2 := Aside0.mk hbv2
        rw [hbv2] at HHAS
        clear hbv hbv2 HH
        go_wp2_with (first | (go_at_call 32; refine (HHAS.out _).mono ?_; rintro e w2 ⟨rfl, hb2⟩; have HB2 := Aside0.mk (below_step HB.out hb2); clear hb2))
        go_roundg (l0.length - (i + 1))
        case measure => have := hi.out.1; omega
        case rel =>
          have hw : wrap64 ((i : Int) + 1) = ((i + 1 : Nat) : Int) := by have := HL.out; unfold wrap64; omega
          refine ⟨i + 1, by rw [hw], ⟨by have := hi.out; omega, by omega⟩, ⟨fun p hp => ?_⟩, HB2⟩
          rw [HT1.out, List.mem_append] at hp
          rcases hp with hp | hp
          · exact HN.out p hp
          · rw [List.mem_singleton] at hp
            rw [hp]
            exact HBV2.out
    · have hb1 : decide ((i : Int) < (l0.length : Int)) = false := decide_eq_false (by omega)
      have hie : i = l0.length := by have := hi.out; omega
      have HANS := Aside0.mk (pin_place.at_none l0 s (fun p hp => HN.out p (by rw [List.take_of_length_le (by omega)]; exact hp)))
      go_wp2
      go_ret
      exact ⟨by rw [HANS.out]; rfl, HB.out⟩
def pin_place.f (l0 : List S24) (a1 : Int) : Option Int := if l0.length < 4398046511104 then some (pin_place.at l0 a1) else none
set_option maxHeartbeats 8000000 in
set_option maxRecDepth 100000 in
theorem pin_place.calls (A0 : Option Addr) (c0 : Nat) (l0 : List S24) (a1 : Int) (r : Int) (w : World) (hr0 : Kd.C k24 w A0 l0.length l0) (hc0 : l0.length ≤ c0) (h : pin_place.f l0 a1 = some r) :
    Calls Try.prog 24 #[.slice A0 l0.length c0, .int .i64 a1] w fun e w' => e = .returned (.int .i64 r) ∧ Below w.heap.size w w' := by
  have hu24 := Try.underlying24
  have HR := Aside0.mk hr0
  have HC := Aside0.mk hc0
  clear hr0 hc0
  unfold pin_place.f at h
  split at h
  case isFalse => cases h
  rename_i hl
  have HQ := Aside0.mk (Option.some.inj h)
  have HL := Aside0.mk hl
  clear h hl
  have HI := Aside0.mk (pin_place.idx A0 c0 l0 a1 HL.out w HR.out)
  go_enter Try.func24, Try.ntmps24
  go_wp2_with (first | (go_at_call 33; refine HI.out.mono ?_; rintro e w2 ⟨rfl, hb2⟩; have HB2 := Aside0.mk hb2; clear hb2))
  go_ret
  exact ⟨by rw [← HQ.out]; rfl, HB2.out⟩

/-! ### api_Pin_25: function 25 (given) -/
-- given making: yes
-- given info: 24
def api_Pin_25.f (l0 : List S24) : Option (List S24) := if l0.length < 4398046511104 then some l0 else none
set_option maxHeartbeats 8000000 in
set_option maxRecDepth 100000 in
theorem api_Pin_25.calls (A0 : Option Addr) (c0 : Nat) (l0 : List S24) (r : List S24) (w : World) (hr0 : Kd.C k24 w A0 l0.length l0) (hc0 : l0.length ≤ c0) (h : api_Pin_25.f l0 = some r) :
    Calls Try.prog 25 #[.slice A0 l0.length c0] w fun e w' => ∃ v0_ : Value, e = .returned (v0_) ∧ Kd.R k24 24 w' w.heap.size (fun _ => True) v0_ r ∧ Below w.heap.size w w' := by
  unfold api_Pin_25.f at h
  split at h
  case isFalse => cases h
  rename_i hl
  obtain rfl := Option.some.inj h
  have HR := Aside0.mk hr0
  have HL := Aside0.mk hl
  have he := x_eql_nil (P := Try.prog) 22 24 Try.underlying22
  rcases A0 with _ | ad
  · have h0 : l0 = [] := List.eq_nil_of_length_eq_zero (by
      rcases Nat.eq_zero_or_pos l0.length with h | h
      · exact h
      · obtain ⟨ad, h, _⟩ := hr0.2.2 h
        cases h)
    subst h0
    clear hr0 h hl HR
    go_enter Try.func25, Try.ntmps25
    go_wp2
    go_ret
    exact ⟨_, rfl, Kd.R_nil _ _ _ _ _, Below.refl _ _⟩
  · clear hr0 h hl
    go_enter Try.func25, Try.ntmps25
    go_wp2_with (first | ((with_reducible refine gate_builtin (b := .append) (xs := #[.tmp 5, .tmp 6]) rfl ?_); at_builtin; refine Kd.R_append_rows k24 (w0 := w) w.heap.size rfl (.tmp 5) (.tmp 6) 22 24 (.agg #[(.int .i64 0), (.int .i64 0)]) 16 rfl Try.underlying22 info24 rfl (by decide) (by omega) (.slice (some ⟨w.heap.size, 0, none⟩) 0 0) ([] : List S24) l0 _ _ _ (fun _ => True) (fun _ => False) rfl rfl ?aO ?aR (fun _ _ h => h) (fun _ h => h.elim) ?aF ?aB ?aS ?aL ?_; (case aR => exact Kd.C_alloc HR.out _); (case aB => exact below_alloc (Below.refl _ _) _); (case aF => exact (fun _ _ => trivial)); (case aO => exact Kd.R_empty _ _ _ _ _ (Nat.le_refl _) trivial); (case aS => exact (by simp)); (case aL => have := HL.out; simp; omega); intro v1 w1 ho hb hg hat; have HO := Aside0.mk ho; have HB := Aside0.mk hb; clear ho hb hg hat))
    go_ret
    exact ⟨_, rfl, HO.out, HB.out⟩

/-! ### api_Pin_pin_Add_1: function 26 (given) -/
-- given making: yes
-- given own: 0.0
-- given kept: 0.0
-- given info: 24
instance : Inhabited S24 := ⟨z24⟩
/-- A pin's two cells. -/
def api_Pin_pin_Add_1.enc (x : S24) : List Value := [.int .i64 x.f0, .int .i64 x.f1]
def api_Pin_pin_Add_1.flat (l : List S24) : List Value := l.flatMap api_Pin_pin_Add_1.enc
theorem api_Pin_pin_Add_1.flat_length (l : List S24) : (api_Pin_pin_Add_1.flat l).length = l.length * 2 := by
  induction l with
  | nil => rfl
  | cons x l ih => simp only [api_Pin_pin_Add_1.flat, List.flatMap_cons, List.length_append, List.length_cons] at *; rw [ih]; simp [api_Pin_pin_Add_1.enc]; omega
theorem api_Pin_pin_Add_1.flat_get (l : List S24) : ∀ (t : Nat), t < l.length * 2 → (api_Pin_pin_Add_1.flat l)[t]? = some ((api_Pin_pin_Add_1.enc (l.getD (t / 2) z24))[t % 2]!) := by
  induction l with
  | nil => intro t h; simp at h
  | cons x l ih =>
    intro t h
    match t with
    | 0 => rfl
    | 1 => rfl
    | t + 2 =>
      have h1 := ih t (by simp at h; omega)
      have e1 : (t + 2) / 2 = t / 2 + 1 := by omega
      have e2 : (t + 2) % 2 = t % 2 := by omega
      rw [e1, e2, List.getD_cons_succ, ← h1]
      rfl
theorem api_Pin_pin_Add_1.flatK_eq (l : List S24) : (Go.Sort.flatK api_Pin_pin_Add_1.enc 2 l.toArray).toList = api_Pin_pin_Add_1.flat l := by
  apply List.ext_getElem?
  intro t
  by_cases h : t < l.length * 2
  · rw [api_Pin_pin_Add_1.flat_get l t h]
    have h1 : t < (Go.Sort.flatK api_Pin_pin_Add_1.enc 2 l.toArray).size := by simp; omega
    have h2 := Go.Sort.get_flatK api_Pin_pin_Add_1.enc 2 l.toArray t (by simpa using h)
    rw [Array.getElem?_toList, Array.getElem?_eq_getElem h1]
    rw [getElem!_pos (Go.Sort.flatK api_Pin_pin_Add_1.enc 2 l.toArray) t h1] at h2
    rw [h2]
    have h3 : t / 2 < l.length := by omega
    have h4 : l.toArray[t / 2]! = l.getD (t / 2) z24 := by
      rw [getElem!_pos l.toArray (t / 2) (by simpa using h3), List.getD_eq_getElem?_getD, List.getElem?_eq_getElem h3]
      simp
    rw [h4]
  · rw [List.getElem?_eq_none (by simp; omega), List.getElem?_eq_none (by rw [api_Pin_pin_Add_1.flat_length]; omega)]
theorem api_Pin_pin_Add_1.reps_flat {R : S24 → List Value → Prop} (hR : ∀ x cs, R x cs → cs = api_Pin_pin_Add_1.enc x) (l : List S24) : ∀ (inner : List Value), Reps R 2 l inner → inner = api_Pin_pin_Add_1.flat l := by
  induction l with
  | nil => intro inner h; exact List.eq_nil_of_length_eq_zero (by simpa using h.1)
  | cons x l ih =>
    intro inner h
    have h0 := hR _ _ (h.2 0 x rfl)
    have h1 := ih (inner.drop 2) ⟨by have := h.1; simp at this ⊢; omega, fun j p hj => by
      have := h.2 (j + 1) p (by simpa using hj)
      rw [List.drop_drop]
      rwa [show 2 + j * 2 = (j + 1) * 2 by omega]⟩
    have h2 : inner = inner.take 2 ++ inner.drop 2 := (List.take_append_drop 2 inner).symm
    rw [Nat.zero_mul, List.drop_zero] at h0
    rw [h2, h0, h1]
    rfl
theorem api_Pin_pin_Add_1.flat_seg (l : List S24) : ∀ (j : Nat) (p : S24), l[j]? = some p → ((api_Pin_pin_Add_1.flat l).drop (j * 2)).take 2 = api_Pin_pin_Add_1.enc p := by
  induction l with
  | nil => intro j p h; simp at h
  | cons x l ih =>
    intro j p h
    cases j with
    | zero =>
      obtain rfl : x = p := by simpa using h
      rfl
    | succ j =>
      have := ih j p (by simpa using h)
      rw [← this, show (j + 1) * 2 = j * 2 + 2 by omega]
      rfl
theorem api_Pin_pin_Add_1.flat_reps (W : World) (base : Nat) (ok : Nat → Prop) (l : List S24) : Reps (k24.M W base ok) 2 l (api_Pin_pin_Add_1.flat l) :=
  ⟨api_Pin_pin_Add_1.flat_length l, fun j p hj => by rw [api_Pin_pin_Add_1.flat_seg l j p hj]; exact k24_mkM W base ok p⟩
/-- Pins in their order, of unlike sessions. -/
def api_Pin_pin_Add_1.put (x : S24) : List S24 → List S24
  | [] => [x]
  | y :: l => if x.f0 ≤ y.f0 then x :: y :: l else y :: api_Pin_pin_Add_1.put x l
def api_Pin_pin_Add_1.sorted (l : List S24) : List S24 := l.foldr api_Pin_pin_Add_1.put []
theorem api_Pin_pin_Add_1.put_perm (x : S24) (l : List S24) : (api_Pin_pin_Add_1.put x l).Perm (x :: l) := by
  induction l with
  | nil => exact List.Perm.refl _
  | cons y l ih =>
    simp only [api_Pin_pin_Add_1.put]
    split
    · exact List.Perm.refl _
    · exact (ih.cons y).trans (List.Perm.swap _ _ _)
theorem api_Pin_pin_Add_1.put_sorted (x : S24) (l : List S24) (h : l.Pairwise (fun a b => a.f0 ≤ b.f0)) : (api_Pin_pin_Add_1.put x l).Pairwise (fun a b => a.f0 ≤ b.f0) := by
  induction l with
  | nil => simp [api_Pin_pin_Add_1.put]
  | cons y l ih =>
    rw [List.pairwise_cons] at h
    simp only [api_Pin_pin_Add_1.put]
    split
    · rename_i hxy
      rw [List.pairwise_cons, List.pairwise_cons]
      refine ⟨fun z hz => ?_, h.1, h.2⟩
      rcases List.mem_cons.1 hz with rfl | hz
      · exact hxy
      · have := h.1 z hz; omega
    · rename_i hxy
      rw [List.pairwise_cons]
      refine ⟨fun z hz => ?_, ih h.2⟩
      rcases List.mem_cons.1 ((api_Pin_pin_Add_1.put_perm x l).mem_iff.1 hz) with rfl | hz
      · omega
      · exact h.1 z hz
theorem api_Pin_pin_Add_1.sorted_perm (l : List S24) : (api_Pin_pin_Add_1.sorted l).Perm l := by
  induction l with
  | nil => exact List.Perm.refl _
  | cons x l ih => exact (api_Pin_pin_Add_1.put_perm x _).trans (ih.cons x)
theorem api_Pin_pin_Add_1.sorted_sorted (l : List S24) : (api_Pin_pin_Add_1.sorted l).Pairwise (fun a b => a.f0 ≤ b.f0) := by
  induction l with
  | nil => exact List.Pairwise.nil
  | cons x l ih => exact api_Pin_pin_Add_1.put_sorted x _ ih
def api_Pin_pin_Add_1.unlike (l : List S24) : Bool := decide (l.Pairwise (fun a b => a.f0 ≠ b.f0))
/-- What is sorted, and the same pins, is this. -/
theorem api_Pin_pin_Add_1.sorted_unique (l s : List S24) (hu : api_Pin_pin_Add_1.unlike l = true) (hp : s.Perm l) (hs : s.Pairwise (fun a b => a.f0 ≤ b.f0)) : s = api_Pin_pin_Add_1.sorted l := by
  have hu' : l.Pairwise (fun a b => a.f0 ≠ b.f0) := of_decide_eq_true hu
  have strict : ∀ t : List S24, t.Perm l → t.Pairwise (fun a b => a.f0 ≤ b.f0) → t.Pairwise (fun a b => a.f0 < b.f0) := fun t htp hts => by
    have h1 : t.Pairwise (fun a b => a.f0 ≠ b.f0) := (htp.pairwise_iff (fun h => Ne.symm h)).2 hu'
    exact (hts.and h1).imp (fun h => by omega)
  exact (hp.trans (api_Pin_pin_Add_1.sorted_perm l).symm).eq_of_pairwise (fun a b _ _ h1 h2 => absurd (Int.lt_trans h1 h2) (Int.lt_irrefl _)) (strict s hp hs) (strict _ (api_Pin_pin_Add_1.sorted_perm l) (api_Pin_pin_Add_1.sorted_sorted l))
theorem api_Pin_pin_Add_1.heap_of {w : World} {g n : Nat} {os : Array Obj} {cur : Array Value} {e : TypeId} {fr : Nat × Nat} (d : Array Value) (hb : w.heap[g]? = some (.cells cur e fr)) :
    (Go.Sort.grow (Go.Sort.putRow id (Go.Sort.ahead w n) g 0 d) os).heap[g]? = some (.cells (Go.Sort.putCells id 0 d cur) e fr) := by
  have hg : g < w.heap.size := (Array.getElem?_eq_some_iff.1 hb).1
  rw [Go.Sort.heap_grow_old _ _ (by simpa using hg)]
  simp [Go.Sort.putRow, Go.Sort.mapBlock, Go.Sort.ahead, Array.getElem?_modify, hb, Go.Sort.onCells]
theorem api_Pin_pin_Add_1.grown_of {w : World} {g n : Nat} {os : Array Obj} (d : Array Value) : w.grownBy (Go.Sort.grow (Go.Sort.putRow id (Go.Sort.ahead w n) g 0 d) os) (some g) := by
  refine ⟨rfl, rfl, rfl, by simp, fun k hk hne => ?_⟩
  rw [Go.Sort.heap_grow_old _ _ (by simpa using hk)]
  have : g ≠ k := fun e => hne (by rw [e])
  simp [Go.Sort.putRow, Go.Sort.mapBlock, Go.Sort.ahead, Array.getElem?_modify, this]
theorem api_Pin_pin_Add_1.take_put (cur : Array Value) (ts : Array Value) (h : ts.size ≤ cur.size) : (Go.Sort.putCells id 0 ts cur).toList.take ts.size = ts.toList := by
  apply List.ext_getElem?
  intro j
  by_cases hj : j < ts.size
  · rw [List.getElem?_take_of_lt hj, Array.getElem?_toList]
    simp [Go.Sort.putCells, hj, show j < cur.size by omega]
  · rw [List.getElem?_take_eq_none (by omega), List.getElem?_eq_none (by simp; omega)]
def api_Pin_pin_Add_1.cf (x y : S24) : Int := Lib.compareInt x.f0 y.f0
theorem api_Pin_pin_Add_1.lt_of (x y : S24) : Go.Proofs.ltOf api_Pin_pin_Add_1.cf x y = decide (x.f0 < y.f0) := by
  unfold Go.Proofs.ltOf api_Pin_pin_Add_1.cf Lib.compareInt
  by_cases h1 : x.f0 < y.f0
  · simp [h1]
  · by_cases h2 : y.f0 < x.f0 <;> simp [h1, h2]
theorem api_Pin_pin_Add_1.swo : Go.Sort.SWO (Go.Proofs.ltOf api_Pin_pin_Add_1.cf) where
  irrefl x := by rw [api_Pin_pin_Add_1.lt_of]; simp
  trans x y z h1 h2 := by rw [api_Pin_pin_Add_1.lt_of] at *; simp at *; omega
  ntrans x y z h1 h2 := by rw [api_Pin_pin_Add_1.lt_of] at *; simp at *; omega
set_option maxHeartbeats 1000000 in
theorem api_Pin_pin_Add_1.closure (x y : S24) (W : World) : Calls Try.prog 27 #[.agg #[.int .i64 x.f0, .int .i64 x.f1], .agg #[.int .i64 y.f0, .int .i64 y.f1]] W fun e w' => e = .returned (.int .i64 (api_Pin_pin_Add_1.cf x y)) ∧ ∃ q os', w' = Go.Sort.grow (W.drewN q) os' := by
  have hu24 := Try.underlying24
  have hcon := fun W' => AnyG.cmp_Compare_int Shelf.cmpInt x.f0 y.f0 W'
  change ∀ W', Calls Try.prog 28 _ _ _ at hcon
  have he : api_Pin_pin_Add_1.cf x y = Lib.compareInt x.f0 y.f0 := rfl
  rw [he]
  generalize Lib.compareInt x.f0 y.f0 = r at hcon ⊢
  clear he
  go_enter Try.func27, Try.ntmps27
  go_wp2_with (go_at_call 28; refine (hcon _).mono ?_; rintro e w' ⟨rfl, rfl⟩)
  go_ret
  exact ⟨rfl, 0, _, by rw [Go.Sort.alloc_eq_grow, Go.Sort.alloc_eq_grow, Go.Sort.grow_grow]; rfl⟩
def api_Pin_pin_Add_1.f (l0 : List S24) : Option (List S24) := if 0 < l0.length ∧ api_Pin_pin_Add_1.unlike l0 = true ∧ l0.length < 1000000 then some (api_Pin_pin_Add_1.sorted l0) else none
set_option maxHeartbeats 8000000 in
set_option maxRecDepth 100000 in
theorem api_Pin_pin_Add_1.calls (P0_ : Nat → Prop) (u9000_ : Value) (l0 : List S24) (r : List S24) (w0 w : World) (hB : Below w0.heap.size w0 w) (ho0 : Kd.R k24 24 w w0.heap.size P0_ u9000_ l0) (h : api_Pin_pin_Add_1.f l0 = some r) :
    Calls Try.prog 26 #[u9000_, .func (.func 27) #[] #[]] w fun e w' => e = .returned (.tuple #[]) ∧ Kd.R k24 24 w' w0.heap.size (fun k_ => (P0_ k_ ∨ w.heap.size ≤ k_)) u9000_ r ∧ Below w0.heap.size w0 w' ∧ Kept w w' (fun k_ => P0_ k_) := by
  unfold api_Pin_pin_Add_1.f at h
  split at h
  case isFalse => cases h
  rename_i ha
  obtain rfl := Option.some.inj h
  clear h
  obtain ⟨hpos, hun, hbig⟩ := ha
  obtain ⟨hok0, inner0, own0, reps0⟩ := id ho0
  obtain ⟨g, c, cur, rfl, hb, hh, hnc, hcm, hs, ht⟩ := x_own_some own0 hpos
  have hP0 : P0_ g := hok0 g (by simp [Value.ownBlock])
  have hsz : k24.sz = 2 := rfl
  rw [hsz] at hs ht
  have hflat : inner0 = api_Pin_pin_Add_1.flat l0 := api_Pin_pin_Add_1.reps_flat (fun x cs h => k24_openM h) l0 inner0 reps0
  subst hflat
  have hH : Go.Sort.HoldsK api_Pin_pin_Add_1.enc 2 w g 0 l0.toArray := by
    intro j hj
    have hj2 : j < l0.length * 2 := by simpa using hj
    rw [Nat.zero_add, blk_cell hh, blk_frozen hh]
    refine ⟨?_, rfl⟩
    have h1 : cur[j]? = (api_Pin_pin_Add_1.flat l0)[j]? := by
      rw [← ht, List.getElem?_take_of_lt hj2, Array.getElem?_toList]
    rw [h1, ← api_Pin_pin_Add_1.flatK_eq, Array.getElem?_toList, getElem!_pos (Go.Sort.flatK api_Pin_pin_Add_1.enc 2 l0.toArray) j hj, Array.getElem?_eq_getElem hj]
    rfl
  have eg : ∀ args w, (callFunc 27 args).run Try.prog w = .ok (.enter 27 args) w := enters_of Try.func27 (by kernel_rfl) rfl
  have hcon := AnyQ.slices_SortFunc Shelf.sortPin 2 Try.isAgg24 Try.sizeOf24 api_Pin_pin_Add_1.enc (fun _ => rfl) (fun x v hv => by simp [api_Pin_pin_Add_1.enc] at hv; rcases hv with rfl | rfl <;> rfl) api_Pin_pin_Add_1.cf api_Pin_pin_Add_1.swo 27 #[] g 0 c l0.toArray w eg (fun _ _ _ _ x y => api_Pin_pin_Add_1.closure x y _) hH (Array.getElem?_eq_some_iff.1 hh).1 (by simp; omega)
  change Calls Try.prog 26 _ _ _ at hcon
  rw [show l0.toArray.size = l0.length by simp] at hcon
  refine hcon.mono ?_
  rintro e w' ⟨rfl, d', n, os, hp, hs', rfl⟩
  have hlen : d'.toList.length = l0.length := by have := hp.1; simp at this ⊢; omega
  have hperm : d'.toList.Perm l0 := by
    have := hp.2.2
    rw [show l0.toArray.extract 0 l0.length = l0.toArray by simp, show d'.extract 0 l0.length = d' by rw [← show d'.size = l0.length by simpa using hlen]; simp] at this
    simpa using this
  have hsort : d'.toList.Pairwise (fun a b => a.f0 ≤ b.f0) := by
    rw [List.pairwise_iff_getElem]
    intro i j hi hj hij
    have h1 := hs' i j (Nat.zero_le _) hij (by simpa [hlen] using hj)
    rw [api_Pin_pin_Add_1.lt_of, getElem!_pos d' i (by simpa using hi), getElem!_pos d' j (by simpa using hj)] at h1
    simp at h1
    simpa using h1
  have hd : d'.toList = api_Pin_pin_Add_1.sorted l0 := api_Pin_pin_Add_1.sorted_unique l0 d'.toList hun hperm hsort
  have hd' : d' = (api_Pin_pin_Add_1.sorted l0).toArray := by rw [← hd]
  subst hd'
  have hslen : (api_Pin_pin_Add_1.sorted l0).length = l0.length := (api_Pin_pin_Add_1.sorted_perm l0).length_eq
  have hgr : w.grownBy (Go.Proofs.sortWorldK api_Pin_pin_Add_1.enc 2 w g 0 n (api_Pin_pin_Add_1.sorted l0).toArray os) (some g) := api_Pin_pin_Add_1.grown_of _
  refine ⟨rfl, ?_, hB.grown hgr (by have := hB.size; omega) (fun k hk => by injection hk with hk; omega), Kept.of_grown hgr (Kept.refl _ _) (fun k hk => by injection hk with hk; subst hk; exact .inl hP0)⟩
  have h := x_row_of_cells k24 24 (Go.Proofs.sortWorldK api_Pin_pin_Add_1.enc 2 w g 0 n (api_Pin_pin_Add_1.sorted l0).toArray os) w0.heap.size (fun k_ => (P0_ k_ ∨ w.heap.size ≤ k_)) g c (Go.Sort.putCells id 0 (Go.Sort.flatK api_Pin_pin_Add_1.enc 2 (api_Pin_pin_Add_1.sorted l0).toArray) cur) (api_Pin_pin_Add_1.sorted l0) (api_Pin_pin_Add_1.flat (api_Pin_pin_Add_1.sorted l0)) hb (api_Pin_pin_Add_1.heap_of _ hh) (by rw [hslen]; exact hnc) hcm (by simp [Go.Sort.putCells, hs, hsz]) (by
    have h1 := api_Pin_pin_Add_1.take_put cur (Go.Sort.flatK api_Pin_pin_Add_1.enc 2 (api_Pin_pin_Add_1.sorted l0).toArray) (by simp [hslen, hs]; omega)
    rw [api_Pin_pin_Add_1.flatK_eq, Go.Sort.size_flatK] at h1
    simpa [hsz] using h1) (api_Pin_pin_Add_1.flat_reps _ _ _ _) (.inl hP0)
  rwa [hslen] at h

/-! ### pin_Add: function 9 -/
def pin_Add.j0 : Nat → List (S24) → Bool → Int → Int → Option ((List (S24)) × Int)
  | 0, _, _, _, _ => none
  | k + 1, x0, x7, x120000, x120001 => if x7 = true then (some (([] : List (S24)), 1)) else ((pin_place.f x0 x120000).bind fun t122 => (if t122 ≥ 0 then (some (([] : List (S24)), 170)) else (if (x0.length : Int) = 50 then (some (([] : List (S24)), 2)) else ((api_Pin_25.f x0).bind fun t123 => ((some (([(⟨x120000, x120001⟩ : S24)] : List (S24)) : List (S24))).bind fun y126 => (if t123.length + y126.length < 8796093022208 then ((api_Pin_pin_Add_1.f (t123 ++ y126)).bind fun t132 => (some (t132, 0))) else (none)))))))
def pin_Add.f (k : Nat) (l0 : List (S24)) (a1_0 : Int) (a1_1 : Int) : Option ((List (S24)) × Int) := (pin_Is.f k l0).bind fun t120 => (if t120 = true then ((pin_may.f a1_0 a1_1).bind fun t121 => (pin_Add.j0 k l0 (!t121) a1_0 a1_1)) else (pin_Add.j0 k l0 true a1_0 a1_1))
theorem pin_Add.mono_l : ∀ k, (∀ y0 y1 y2 y3, LeO (pin_Add.j0 k y0 y1 y2 y3) (pin_Add.j0 (k + 1) y0 y1 y2 y3))
  | 0 => fun _ _ _ _ r h => by simp [pin_Add.j0] at h
  | k + 1 => by
    have ih0 := pin_Add.mono_l k
    · intro y0 y1 y2 y3
      unfold pin_Add.j0
      repeat' first
      | (with_reducible exact ih0 _ _ _ _)
      | (with_reducible exact pin_Is.mono _ _)
      | (with_reducible exact LeO.refl _)
      | (with_reducible exact LeO.none _)
      | (with_reducible refine LeO.ite ?_ ?_)
      | (with_reducible refine LeO.bind ?_ (fun _ => ?_))
      | exact ih0 _ _ _ _
      | exact pin_Is.mono _ _
      | exact LeO.none _
      | refine LeO.ite ?_ ?_
      | refine LeO.bind ?_ (fun _ => ?_)
theorem pin_Add.mono : ∀ a0 a1 a2 k, LeO (pin_Add.f k a0 a1 a2) (pin_Add.f (k + 1) a0 a1 a2) := by
  intro a0 a1 a2 k
  have ih0 := pin_Add.mono_l k
  unfold pin_Add.f
  repeat' first
      | (with_reducible exact ih0 _ _ _ _)
      | (with_reducible exact pin_Is.mono _ _)
      | (with_reducible exact LeO.refl _)
      | (with_reducible exact LeO.none _)
      | (with_reducible refine LeO.ite ?_ ?_)
      | (with_reducible refine LeO.bind ?_ (fun _ => ?_))
      | exact ih0 _ _ _ _
      | exact pin_Is.mono _ _
      | exact LeO.none _
      | refine LeO.ite ?_ ?_
      | refine LeO.bind ?_ (fun _ => ?_)
set_option maxHeartbeats 8000000 in
set_option maxRecDepth 100000 in
theorem pin_Add.calls (k : Nat) (A0 : Option Addr) (c0 : Nat) (l0 : List (S24)) (a1_0 : Int) (a1_1 : Int) (r1 : List (S24)) (r2 : Int) (w : World) (hr0 : Kd.C k24 w A0 l0.length l0) (hc0 : l0.length ≤ c0) (h : pin_Add.f k l0 a1_0 a1_1 = some (r1, r2)) :
    Calls Try.prog 9 #[.slice A0 l0.length c0, .agg #[.int .i64 a1_0, .int .i64 a1_1]] w fun e w' => ∃ v0_ : Value, e = .returned (.tuple #[v0_, .int .i64 r2]) ∧ Kd.R k24 24 w' w.heap.size (fun _ => True) v0_ r1 ∧ Below w.heap.size w w' := by
  have hu24 := Try.underlying24
  have HR0 := Aside0.mk hr0
  have HC0 := Aside0.mk hc0
  clear hr0 hc0
  have HB := Aside0.mk (Below.refl w.heap.size w)
  have H : ((pin_Is.f k l0).bind fun t120 => (if t120 = true then ((pin_may.f a1_0 a1_1).bind fun t121 => (pin_Add.j0 k l0 (!t121) a1_0 a1_1)) else (pin_Add.j0 k l0 true a1_0 a1_1))) = some (r1, r2) := h
  clear h
  have HC3 := Aside0.mk H
  clear H
  go_enter Try.func9, Try.ntmps9
  go_upto_region 1 with (first | ((with_reducible refine gate_dst (N := 3) rfl ?_); refine box_event ?hg (N := 3) ?hd (cs := #[.int .i64 a1_0, .int .i64 a1_1]) (t := 24) ?hr ?_; (case hd => rfl); (case hg => rfl); (case hr => first | (go_simp; done) | (go_simp; rfl)); intro gb119 hg w4 hbox hb; have n0_ := Aside0.mk (below_step (by repeat (first | (with_reducible first | exact HB.out | apply below_alloc | apply pw_below_drewN | apply below_drew1) | exact HB.out)) hb); have n1_ := Aside0.mk (hbox); have n2_ := Aside0.mk ((by rw [hg]; exact (below_size (by repeat (first | (with_reducible first | exact HB.out | apply below_alloc | apply pw_below_drewN | apply below_drew1) | exact HB.out))) : w.heap.size ≤ gb119)); have n3_ := Aside0.mk ((by rw [hg]; exact (below_size (by repeat (first | (with_reducible first | exact HB.out | apply below_alloc | apply pw_below_drewN | apply below_drew1) | exact HB.out))) : w.heap.size ≤ gb119)); clear HB; have HB := n0_; have BK119 := n1_; have GW119 := n2_; have GE119 := n3_; clear n0_ n1_ n2_ n3_; clear hb hbox hg))
  (try simp only [Act.put, List.setIfInBounds_toArray, List.set_cons_zero, List.set_cons_succ])
  go_cut [7] (fun v7 wc => ∃ (kq : Nat) (x7_2 : Bool), v7 = .bool x7_2 ∧ Aside0 (pin_Add.j0 kq l0 x7_2 a1_0 a1_1 = some (r1, r2)) ∧ Aside0 (kq ≤ k) ∧ Aside0 (wc.heap[gb119]? = some (.cells #[.int .i64 a1_0, .int .i64 a1_1] 24 (0, 0))) ∧ Aside0 (Below w.heap.size w wc))
  case first =>
    have H := HC3.out
    clear HC3
    replace H := Option.bind_eq_some_iff.mp H
    obtain ⟨t120, A50, H⟩ := H
    replace H : (if t120 = true then ((pin_may.f a1_0 a1_1).bind fun t121 => (pin_Add.j0 k l0 (!t121) a1_0 a1_1)) else (pin_Add.j0 k l0 true a1_0 a1_1)) = some (r1, r2) := H
    have A5 := Aside0.mk A50
    clear A50
    by_cases c6 : t120 = true
    · subst c6
      have H1 : ((pin_may.f a1_0 a1_1).bind fun t121 => (pin_Add.j0 k l0 (!t121) a1_0 a1_1)) = some (r1, r2) := by rw [if_pos rfl] at H; exact H
      clear H
      have H := H1
      clear H1
      replace H := Option.bind_eq_some_iff.mp H
      obtain ⟨t121, A70, H⟩ := H
      replace H : (pin_Add.j0 k l0 (!t121) a1_0 a1_1) = some (r1, r2) := H
      have A7 := Aside0.mk A70
      clear A70
      have H' := Aside0.mk H
      clear H
      go_wp2_with (first | ((with_reducible refine gate_callee (f := 21) rfl ?_); refine goesL_ (some 9) rfl rfl Try.func21 (by kernel_rfl) rfl #[.slice A0 l0.length c0] rfl (by (try simp only [List.map_toArray, List.map_cons, List.map_nil]); first | done | rfl | (simp only [List.length_drop, List.length_take]; rfl)) ?_; (with_reducible refine (pin_Is.calls k _ _ l0 true _ ?side1 ?side2 A5.out).mono ?_); (case side1 => repeat (first | exact (Kd.C_below HR0.out HB.out) | (with_reducible refine Kd.C_alloc ?_ _) | (with_reducible refine Kd.C_drewN ?_ _) | (with_reducible refine Kd.C_drew ?_))); (case side2 => exact HC0.out); rintro e w8 ⟨rfl, hb⟩; refine ⟨_, rfl, ?_⟩; have n0_ := Aside0.mk (blk_below (g := gb119) (o := .cells #[.int .i64 a1_0, .int .i64 a1_1] 24 (0, 0)) (by (with_reducible repeat (first | refine blk_drewN ?_ _ | refine blk_drew ?_ | refine blk_alloc ?_ _)); exact BK119.out) hb); have n1_ := Aside0.mk (below_step (by repeat (first | (with_reducible first | exact HB.out | apply below_alloc | apply pw_below_drewN | apply below_drew1 | refine below_set ?_ GE119.out) | exact HB.out)) hb); clear BK119; clear HB; have BK119 := n0_; have HB := n1_; clear n0_ n1_; (try clear hb); (try clear hb2); (try clear hk); (try clear hi); have hcz9_0 : w8.cell? ⟨gb119, 0, none⟩ = some (.int .i64 a1_0) := (blk_cell BK119.out 0).trans rfl; have hcz9_1 : w8.cell? ⟨gb119, 1, none⟩ = some (.int .i64 a1_1) := (blk_cell BK119.out 1).trans rfl; have hfz9_0 := blk_frozen BK119.out 0; have hfz9_1 := blk_frozen BK119.out 1) | (go_at_call 23; (with_reducible refine (pin_may.calls a1_0 a1_1 t121 _ A7.out).mono ?_); rintro e w10 ⟨rfl, hb⟩; have n0_ := Aside0.mk (blk_below (g := gb119) (o := .cells #[.int .i64 a1_0, .int .i64 a1_1] 24 (0, 0)) (by (with_reducible repeat (first | refine blk_drewN ?_ _ | refine blk_drew ?_ | refine blk_alloc ?_ _)); exact BK119.out) hb); have n1_ := Aside0.mk (below_step (by repeat (first | (with_reducible first | exact HB.out | apply below_alloc | apply pw_below_drewN | apply below_drew1 | refine below_set ?_ GE119.out) | exact HB.out)) hb); clear BK119; clear HB; have BK119 := n0_; have HB := n1_; clear n0_ n1_; (try clear hb); (try clear hb2); (try clear hk); (try clear hi)))
      go_meet
      case rel => exact ⟨_, (!t121), (by first | rfl | (simp; done) | (simp [*]; done)), H', ⟨by first | omega | exact Nat.le_refl _⟩, ⟨by (with_reducible repeat (first | refine blk_drewN ?_ _ | refine blk_drew ?_ | refine blk_alloc ?_ _)); exact BK119.out⟩, ⟨by repeat (first | (with_reducible first | exact HB.out | apply below_alloc | apply pw_below_drewN | apply below_drew1 | refine below_set ?_ GE119.out) | exact HB.out)⟩⟩
    · replace c6 := Bool.eq_false_iff.mpr c6
      subst c6
      have H1 : (pin_Add.j0 k l0 true a1_0 a1_1) = some (r1, r2) := by rw [if_neg (show ¬ (false = true) by decide)] at H; exact H
      clear H
      have H := H1
      clear H1
      have H' := Aside0.mk H
      clear H
      go_wp2_with (first | ((with_reducible refine gate_callee (f := 21) rfl ?_); refine goesL_ (some 9) rfl rfl Try.func21 (by kernel_rfl) rfl #[.slice A0 l0.length c0] rfl (by (try simp only [List.map_toArray, List.map_cons, List.map_nil]); first | done | rfl | (simp only [List.length_drop, List.length_take]; rfl)) ?_; (with_reducible refine (pin_Is.calls k _ _ l0 false _ ?side1 ?side2 A5.out).mono ?_); (case side1 => repeat (first | exact (Kd.C_below HR0.out HB.out) | (with_reducible refine Kd.C_alloc ?_ _) | (with_reducible refine Kd.C_drewN ?_ _) | (with_reducible refine Kd.C_drew ?_))); (case side2 => exact HC0.out); rintro e w11 ⟨rfl, hb⟩; refine ⟨_, rfl, ?_⟩; have n0_ := Aside0.mk (blk_below (g := gb119) (o := .cells #[.int .i64 a1_0, .int .i64 a1_1] 24 (0, 0)) (by (with_reducible repeat (first | refine blk_drewN ?_ _ | refine blk_drew ?_ | refine blk_alloc ?_ _)); exact BK119.out) hb); have n1_ := Aside0.mk (below_step (by repeat (first | (with_reducible first | exact HB.out | apply below_alloc | apply pw_below_drewN | apply below_drew1 | refine below_set ?_ GE119.out) | exact HB.out)) hb); clear BK119; clear HB; have BK119 := n0_; have HB := n1_; clear n0_ n1_; (try clear hb); (try clear hb2); (try clear hk); (try clear hi)))
      go_meet
      case rel => exact ⟨_, (true), (by first | rfl | (simp; done) | (simp [*]; done)), H', ⟨by first | omega | exact Nat.le_refl _⟩, ⟨by (with_reducible repeat (first | refine blk_drewN ?_ _ | refine blk_drew ?_ | refine blk_alloc ?_ _)); exact BK119.out⟩, ⟨by repeat (first | (with_reducible first | exact HB.out | apply below_alloc | apply pw_below_drewN | apply below_drew1 | refine below_set ?_ GE119.out) | exact HB.out)⟩⟩
  case rest =>
    clear HC3
    try clear c2
    try clear p2
    try clear c6
    try clear c9
    try clear hcz9_0
    try clear hcz9_1
    try clear hfz9_0
    try clear hfz9_1
    obtain ⟨kq, x7_2, rfl, HA, HJ2, BK119, HB⟩ := hcut
    cases kq with
    | zero => exact absurd HA.out (by simp [pin_Add.j0])
    | succ kj2 =>
      have H := HA.out
      clear HA
      simp only [pin_Add.j0] at H
      by_cases c12 : x7_2 = true
      · subst c12
        have H1 : (some (([] : List (S24)), 1)) = some (r1, r2) := by rw [if_pos rfl] at H; exact H
        clear H
        have H := H1
        clear H1
        simp only [Option.some.injEq, Prod.mk.injEq] at H
        obtain ⟨rfl, rfl⟩ := H
        go_wp2
        go_ret2
        exact ⟨_, by first | rfl | (simp [errW_none, errW_some] <;> rfl) | (simp [*, errW_none, errW_some] <;> rfl), by first | exact Kd.R_nil _ _ _ _ _ | exact Kd.N_nil _ _ _ _ _ | exact Kd.V_nil _ _ _ _ _ | exact Kd.Q_nil _ _ _ _ _ | exact Kd.S_nil _ _ _ _ _, by repeat (first | (with_reducible first | exact HB.out | apply below_alloc | apply pw_below_drewN | apply below_drew1 | refine below_set ?_ GE119.out) | exact HB.out)⟩
      · replace c12 := Bool.eq_false_iff.mpr c12
        subst c12
        have H1 : ((pin_place.f l0 a1_0).bind fun t122 => (if t122 ≥ 0 then (some (([] : List (S24)), 170)) else (if (l0.length : Int) = 50 then (some (([] : List (S24)), 2)) else ((api_Pin_25.f l0).bind fun t123 => ((some (([(⟨a1_0, a1_1⟩ : S24)] : List (S24)) : List (S24))).bind fun y126 => (if t123.length + y126.length < 8796093022208 then ((api_Pin_pin_Add_1.f (t123 ++ y126)).bind fun t132 => (some (t132, 0))) else (none))))))) = some (r1, r2) := by rw [if_neg (show ¬ (false = true) by decide)] at H; exact H
        clear H
        have H := H1
        clear H1
        replace H := Option.bind_eq_some_iff.mp H
        obtain ⟨t122, A130, H⟩ := H
        replace H : (if t122 ≥ 0 then (some (([] : List (S24)), 170)) else (if (l0.length : Int) = 50 then (some (([] : List (S24)), 2)) else ((api_Pin_25.f l0).bind fun t123 => ((some (([(⟨a1_0, a1_1⟩ : S24)] : List (S24)) : List (S24))).bind fun y126 => (if t123.length + y126.length < 8796093022208 then ((api_Pin_pin_Add_1.f (t123 ++ y126)).bind fun t132 => (some (t132, 0))) else (none)))))) = some (r1, r2) := H
        have A13 := Aside0.mk A130
        clear A130
        by_cases c14 : t122 ≥ 0
        · rw [if_pos c14] at H
          have c14b0 : decide (0 ≤ t122) = true := decide_eq_true c14
          clear c14
          simp only [Option.some.injEq, Prod.mk.injEq] at H
          obtain ⟨rfl, rfl⟩ := H
          have hcz15_0 : wc.cell? ⟨gb119, 0, none⟩ = some (.int .i64 a1_0) := (blk_cell BK119.out 0).trans rfl
          have hcz15_1 : wc.cell? ⟨gb119, 1, none⟩ = some (.int .i64 a1_1) := (blk_cell BK119.out 1).trans rfl
          have hfz15_0 := blk_frozen BK119.out 0
          have hfz15_1 := blk_frozen BK119.out 1
          go_wp2_with (first | ((with_reducible refine gate_callee (f := 24) rfl ?_); refine goesL_ (some 20) rfl rfl Try.func24 (by kernel_rfl) rfl #[.slice A0 l0.length c0, .int .i64 a1_0] rfl (by (try simp only [List.map_toArray, List.map_cons, List.map_nil]); first | done | rfl | (simp only [List.length_drop, List.length_take]; rfl)) ?_; (with_reducible refine (pin_place.calls _ _ l0 a1_0 t122 _ ?side1 ?side2 A13.out).mono ?_); (case side1 => repeat (first | exact (Kd.C_below HR0.out HB.out) | (with_reducible refine Kd.C_alloc ?_ _) | (with_reducible refine Kd.C_drewN ?_ _) | (with_reducible refine Kd.C_drew ?_))); (case side2 => exact HC0.out); rintro e w16 ⟨rfl, hb⟩; refine ⟨_, rfl, ?_⟩; have n0_ := Aside0.mk (blk_below (g := gb119) (o := .cells #[.int .i64 a1_0, .int .i64 a1_1] 24 (0, 0)) (by (with_reducible repeat (first | refine blk_drewN ?_ _ | refine blk_drew ?_ | refine blk_alloc ?_ _)); exact BK119.out) hb); have n1_ := Aside0.mk (below_step (by repeat (first | (with_reducible first | exact HB.out | apply below_alloc | apply pw_below_drewN | apply below_drew1 | refine below_set ?_ GE119.out) | exact HB.out)) hb); clear BK119; clear HB; have BK119 := n0_; have HB := n1_; clear n0_ n1_; (try clear hb); (try clear hb2); (try clear hk); (try clear hi)))
          go_ret2
          exact ⟨_, by first | rfl | (simp [errW_none, errW_some] <;> rfl) | (simp [*, errW_none, errW_some] <;> rfl), by first | exact Kd.R_nil _ _ _ _ _ | exact Kd.N_nil _ _ _ _ _ | exact Kd.V_nil _ _ _ _ _ | exact Kd.Q_nil _ _ _ _ _ | exact Kd.S_nil _ _ _ _ _, by repeat (first | (with_reducible first | exact HB.out | apply below_alloc | apply pw_below_drewN | apply below_drew1 | refine below_set ?_ GE119.out) | exact HB.out)⟩
        · rw [if_neg c14] at H
          have c14b0 : decide (0 ≤ t122) = false := decide_eq_false c14
          clear c14
          by_cases c17 : (l0.length : Int) = 50
          · rw [if_pos c17] at H
            have c17b0 : ((l0.length : Int) == 50) = true := beq_iff_eq.mpr c17
            have c17b1 : ((l0.length : Int) != 50) = false := bne_eq_false_iff_eq.mpr c17
            clear c17
            simp only [Option.some.injEq, Prod.mk.injEq] at H
            obtain ⟨rfl, rfl⟩ := H
            have hcz18_0 : wc.cell? ⟨gb119, 0, none⟩ = some (.int .i64 a1_0) := (blk_cell BK119.out 0).trans rfl
            have hcz18_1 : wc.cell? ⟨gb119, 1, none⟩ = some (.int .i64 a1_1) := (blk_cell BK119.out 1).trans rfl
            have hfz18_0 := blk_frozen BK119.out 0
            have hfz18_1 := blk_frozen BK119.out 1
            go_wp2_with (first | ((with_reducible refine gate_callee (f := 24) rfl ?_); refine goesL_ (some 20) rfl rfl Try.func24 (by kernel_rfl) rfl #[.slice A0 l0.length c0, .int .i64 a1_0] rfl (by (try simp only [List.map_toArray, List.map_cons, List.map_nil]); first | done | rfl | (simp only [List.length_drop, List.length_take]; rfl)) ?_; (with_reducible refine (pin_place.calls _ _ l0 a1_0 t122 _ ?side1 ?side2 A13.out).mono ?_); (case side1 => repeat (first | exact (Kd.C_below HR0.out HB.out) | (with_reducible refine Kd.C_alloc ?_ _) | (with_reducible refine Kd.C_drewN ?_ _) | (with_reducible refine Kd.C_drew ?_))); (case side2 => exact HC0.out); rintro e w19 ⟨rfl, hb⟩; refine ⟨_, rfl, ?_⟩; have n0_ := Aside0.mk (blk_below (g := gb119) (o := .cells #[.int .i64 a1_0, .int .i64 a1_1] 24 (0, 0)) (by (with_reducible repeat (first | refine blk_drewN ?_ _ | refine blk_drew ?_ | refine blk_alloc ?_ _)); exact BK119.out) hb); have n1_ := Aside0.mk (below_step (by repeat (first | (with_reducible first | exact HB.out | apply below_alloc | apply pw_below_drewN | apply below_drew1 | refine below_set ?_ GE119.out) | exact HB.out)) hb); clear BK119; clear HB; have BK119 := n0_; have HB := n1_; clear n0_ n1_; (try clear hb); (try clear hb2); (try clear hk); (try clear hi)))
            go_ret2
            exact ⟨_, by first | rfl | (simp [errW_none, errW_some] <;> rfl) | (simp [*, errW_none, errW_some] <;> rfl), by first | exact Kd.R_nil _ _ _ _ _ | exact Kd.N_nil _ _ _ _ _ | exact Kd.V_nil _ _ _ _ _ | exact Kd.Q_nil _ _ _ _ _ | exact Kd.S_nil _ _ _ _ _, by repeat (first | (with_reducible first | exact HB.out | apply below_alloc | apply pw_below_drewN | apply below_drew1 | refine below_set ?_ GE119.out) | exact HB.out)⟩
          · rw [if_neg c17] at H
            have c17b0 : ((l0.length : Int) == 50) = false := beq_eq_false_iff_ne.mpr c17
            have c17b1 : ((l0.length : Int) != 50) = true := bne_iff_ne.mpr c17
            replace H := Option.bind_eq_some_iff.mp H
            obtain ⟨t123, A200, H⟩ := H
            replace H : ((some (([(⟨a1_0, a1_1⟩ : S24)] : List (S24)) : List (S24))).bind fun y126 => (if t123.length + y126.length < 8796093022208 then ((api_Pin_pin_Add_1.f (t123 ++ y126)).bind fun t132 => (some (t132, 0))) else (none))) = some (r1, r2) := H
            have A20 := Aside0.mk A200
            clear A200
            obtain ⟨y126, hy126⟩ : ∃ y_ : List (S24), y_ = (([(⟨a1_0, a1_1⟩ : S24)] : List (S24))) := ⟨_, rfl⟩
            replace H : (if t123.length + y126.length < 8796093022208 then ((api_Pin_pin_Add_1.f (t123 ++ y126)).bind fun t132 => (some (t132, 0))) else (none)) = some (r1, r2) := by first | (rw [hy126]; with_reducible exact H) | (have H2_ := (Option.bind_some _ _).symm.trans H; rw [hy126]; with_reducible exact H2_) | (have H2_ := (Option.bind_some _ _).symm.trans H; with_reducible exact H2_) | with_reducible exact H | (rw [hy126]; exact H) | exact H
            have Ny126 := Aside0.mk hy126
            clear hy126
            by_cases c21 : t123.length + y126.length < 8796093022208
            · rw [if_pos c21] at H
              have LMc21 := Aside0.mk c21
              clear c21
              obtain ⟨y129, hy129⟩ : ∃ y_ : List (S24), y_ = (t123 ++ y126) := ⟨_, rfl⟩
              replace H : ((api_Pin_pin_Add_1.f y129).bind fun t132 => (some (t132, 0))) = some (r1, r2) := by first | (rw [hy129]; with_reducible exact H) | (have H2_ := (Option.bind_some _ _).symm.trans H; rw [hy129]; with_reducible exact H2_) | (have H2_ := (Option.bind_some _ _).symm.trans H; with_reducible exact H2_) | with_reducible exact H | (rw [hy129]; exact H) | exact H
              have Ny129 := Aside0.mk hy129
              clear hy129
              replace H := Option.bind_eq_some_iff.mp H
              obtain ⟨t132, A220, H⟩ := H
              replace H : (some (t132, 0)) = some (r1, r2) := H
              have A22 := Aside0.mk A220
              clear A220
              simp only [Option.some.injEq, Prod.mk.injEq] at H
              obtain ⟨rfl, rfl⟩ := H
              have hcz23_0 : wc.cell? ⟨gb119, 0, none⟩ = some (.int .i64 a1_0) := (blk_cell BK119.out 0).trans rfl
              have hcz23_1 : wc.cell? ⟨gb119, 1, none⟩ = some (.int .i64 a1_1) := (blk_cell BK119.out 1).trans rfl
              have hfz23_0 := blk_frozen BK119.out 0
              have hfz23_1 := blk_frozen BK119.out 1
              try go_wp2_with (first | ((with_reducible refine gate_callee (f := 24) rfl ?_); refine goesL_ (some 20) rfl rfl Try.func24 (by kernel_rfl) rfl #[.slice A0 l0.length c0, .int .i64 a1_0] rfl (by (try simp only [List.map_toArray, List.map_cons, List.map_nil]); first | done | rfl | (simp only [List.length_drop, List.length_take]; rfl)) ?_; (with_reducible refine (pin_place.calls _ _ l0 a1_0 t122 _ ?side1 ?side2 A13.out).mono ?_); (case side1 => repeat (first | exact (Kd.C_below HR0.out HB.out) | (with_reducible refine Kd.C_alloc ?_ _) | (with_reducible refine Kd.C_drewN ?_ _) | (with_reducible refine Kd.C_drew ?_))); (case side2 => exact HC0.out); rintro e w24 ⟨rfl, hb⟩; refine ⟨_, rfl, ?_⟩; have n0_ := Aside0.mk (blk_below (g := gb119) (o := .cells #[.int .i64 a1_0, .int .i64 a1_1] 24 (0, 0)) (by (with_reducible repeat (first | refine blk_drewN ?_ _ | refine blk_drew ?_ | refine blk_alloc ?_ _)); exact BK119.out) hb); have n1_ := Aside0.mk (below_step (by repeat (first | (with_reducible first | exact HB.out | apply below_alloc | apply pw_below_drewN | apply below_drew1 | refine below_set ?_ GE119.out) | exact HB.out)) hb); clear BK119; clear HB; have BK119 := n0_; have HB := n1_; clear n0_ n1_; (try clear hb); (try clear hb2); (try clear hk); (try clear hi)))
              have n0_ := Aside0.mk (blk_drew BK119.out)
              have n1_ := Aside0.mk (below_drew1 HB.out)
              clear BK119
              clear HB
              have BK119 := n0_
              have HB := n1_
              clear n0_ n1_
              refine start_ (n := 6) (S := fun w' => w'.cell? ⟨gb119, 0, none⟩ = some (.int .i64 a1_0) ∧ w'.cell? ⟨gb119, 1, none⟩ = some (.int .i64 a1_1)) (ds := []) #[false, false, false, false, false, false] (by kernel_rfl) rfl rfl ⟨(blk_cell BK119.out 0).trans rfl, (blk_cell BK119.out 1).trans rfl⟩ (fun hHeld => ?_)
              generalize w24.drew = w25 at BK119 HB hHeld ⊢
              refine pure_ (i := 0) (N := some 26) (v := ?_) (a' := ?_) #[true, false, false, false, false, false] rfl rfl (by kernel_rfl) (fun _ _ _ h => h) (Or.inl ⟨by rfl, ?_⟩) ?_ ?_
              rotate_left
              · intro w'
                go_simp
                with_reducible rfl
              rotate_left
              · simp only [Act.put, List.setIfInBounds_toArray, List.set_cons_zero, List.set_cons_succ, i64_w, i32_w]
                rfl
              refine take_ (i := 2) (N := some 28) (v := ?_) (a' := ?_) #[true, false, true, false, false, false] rfl rfl (by kernel_rfl) (fun _ _ _ h => h) (Or.inl ⟨by rfl, ?_⟩) hHeld ?_ ?_
              rotate_left
              · rintro w' ⟨s0, s1⟩
                go_simp
                with_reducible rfl
              rotate_left
              · simp only [Act.put, List.setIfInBounds_toArray, List.set_cons_zero, List.set_cons_succ, i64_w, i32_w]
                rfl
              refine join_ (σ := Value × Value) 2 #[true, true, true, true, false, false] (fun s_ => [(27, s_.1), (29, s_.2)]) (fun s_ w' => (w'.cell? ⟨gb119, 0, none⟩ = some (.int .i64 a1_0) ∧ w'.cell? ⟨gb119, 1, none⟩ = some (.int .i64 a1_1)) ∧ (Kd.R k24 24 w' w.heap.size (fun k_ => some k_ ≠ (s_.2 : Value).ownBlock ∧ k_ ≠ gb119) s_.1 t123) ∧ (Kd.R k24 24 w' w.heap.size (fun k_ => some k_ ≠ (s_.1 : Value).ownBlock ∧ k_ ≠ gb119) s_.2 y126) ∧ (w'.heap[gb119]? = some (.cells #[.int .i64 a1_0, .int .i64 a1_1] 24 (0, 0))) ∧ (Below w.heap.size w w')) ?_ ?_
              rotate_left
              · intro hCont
                refine two_ (i := 1) (j := 3) (Ni := some 27) (Nj := some 29) #[true, true, true, false, false, false] #[true, false, true, true, false, false] rfl rfl rfl rfl (by kernel_rfl) (by decide) (by decide) (fun K hK => ?_) (fun K hK => ?_)
                · skip
                  refine goes_ Try.func25 (by kernel_rfl) rfl #[.slice A0 l0.length c0] (by rfl) rfl rfl (by (try simp only [List.map_toArray, List.map_cons, List.map_nil]); first | done | rfl | (simp only [List.length_drop, List.length_take]; rfl)) ?_
                  with_reducible refine (api_Pin_25.calls _ _ l0 t123 _ ?side1 ?side2 A20.out).mono ?_
                  (case side1 => repeat (first | exact (Kd.C_below HR0.out HB.out) | (with_reducible refine Kd.C_alloc ?_ _) | (with_reducible refine Kd.C_drewN ?_ _) | (with_reducible refine Kd.C_drew ?_)))
                  (case side2 => exact HC0.out)
                  rintro e w26 ⟨v124, rfl, ho0, hb⟩
                  refine ⟨_, rfl, ?_⟩
                  have n0_ := Aside0.mk (Kd.R_lower (Kd.R_newB ho0 (g := gb119) (o := .cells #[.int .i64 a1_0, .int .i64 a1_1] 24 (0, 0)) (by (with_reducible repeat (first | refine blk_drewN ?_ _ | refine blk_drew ?_ | refine blk_alloc ?_ _)); exact BK119.out)) (below_size (by repeat (first | (with_reducible first | exact HB.out | apply below_alloc | apply pw_below_drewN | apply below_drew1 | refine below_set ?_ GE119.out) | exact HB.out))))
                  have n1_ := Aside0.mk (blk_below (g := gb119) (o := .cells #[.int .i64 a1_0, .int .i64 a1_1] 24 (0, 0)) (by (with_reducible repeat (first | refine blk_drewN ?_ _ | refine blk_drew ?_ | refine blk_alloc ?_ _)); exact BK119.out) hb)
                  have n2_ := Aside0.mk (below_step (by repeat (first | (with_reducible first | exact HB.out | apply below_alloc | apply pw_below_drewN | apply below_drew1 | refine below_set ?_ GE119.out) | exact HB.out)) hb)
                  clear BK119
                  clear HB
                  have HO125 := n0_
                  have BK119 := n1_
                  have HB := n2_
                  clear n0_ n1_ n2_
                  (try clear hb)
                  (try clear hb2)
                  (try clear hk)
                  (try clear hi)
                  (try clear ho0)
                  refine hK.out _ _ ⟨(blk_cell BK119.out 0).trans rfl, (blk_cell BK119.out 1).trans rfl⟩ (fun hHeld => ?_)
                  clear hK K
                  refine norm_ (a' := ?_) ?_ ?_
                  rotate_left
                  · show Act.put _ (some 27) _ = _
                    simp only [Act.put, List.setIfInBounds_toArray, List.set_cons_zero, List.set_cons_succ, i64_w, i32_w]
                    rfl
                  refine one_ (i := 3) (N := some 29) #[true, true, true, true, false, false] rfl rfl (by kernel_rfl) (by decide) (fun K hK => ?_)
                  refine Kd.R_lit_step k24 _ 24 ?hg (N := 29) ?hd (xs := ([(⟨a1_0, a1_1⟩ : S24)] : List (S24))) (inner := [.int .i64 a1_0, .int .i64 a1_1]) (ok := fun _ => True) (okp := fun _ => True) ?hr ?hp (fun _ hk => hk) trivial (Below.refl _ _) (Nat.le_refl _) (by simp) ?_; (case hd => rfl); (case hg => rfl); (case hr => first | (go_simp; done) | (go_simp; rfl)); (case hp => exact (Reps.c2 (show Kd.M k24 _ _ _ (⟨a1_0, a1_1⟩ : S24) [.int .i64 a1_0, .int .i64 a1_1] from (k24_mkM _ _ _ (⟨a1_0, a1_1⟩ : S24) )) (Reps.none _ _)))
                  intro v127 w27 ho28 hb hg_ hnew_
                  clear hg_ hnew_
                  (first | rw [← Ny126.out] at ho28 | (simp only [Int.reduceToNat] at ho28; rw [← Ny126.out] at ho28))
                  have n0_ := Aside0.mk (Kd.R_elder' (by (with_reducible repeat (first | apply Kd.R_alloc | apply Kd.R_drewN | apply Kd.R_drew)); exact HO125.out) (Kd.R_base ho28) hb)
                  have n1_ := Aside0.mk (Kd.R_lower (Kd.R_newB (Kd.R_new' ho28 (Kd.R_lt (by (with_reducible repeat (first | apply Kd.R_alloc | apply Kd.R_drewN | apply Kd.R_drew)); exact HO125.out))) (g := gb119) (o := .cells #[.int .i64 a1_0, .int .i64 a1_1] 24 (0, 0)) (by (with_reducible repeat (first | refine blk_drewN ?_ _ | refine blk_drew ?_ | refine blk_alloc ?_ _)); exact BK119.out)) (below_size (by repeat (first | (with_reducible first | exact HB.out | apply below_alloc | apply pw_below_drewN | apply below_drew1 | refine below_set ?_ GE119.out) | exact HB.out))))
                  have n2_ := Aside0.mk (blk_below (g := gb119) (o := .cells #[.int .i64 a1_0, .int .i64 a1_1] 24 (0, 0)) (by (with_reducible repeat (first | refine blk_drewN ?_ _ | refine blk_drew ?_ | refine blk_alloc ?_ _)); exact BK119.out) hb)
                  have n3_ := Aside0.mk (below_step (by repeat (first | (with_reducible first | exact HB.out | apply below_alloc | apply pw_below_drewN | apply below_drew1 | refine below_set ?_ GE119.out) | exact HB.out)) hb)
                  clear HO125
                  clear BK119
                  clear HB
                  have HO125 := n0_
                  have HO128 := n1_
                  have BK119 := n2_
                  have HB := n3_
                  clear n0_ n1_ n2_ n3_
                  clear hb ho28
                  refine hK.out _ _ ⟨(blk_cell BK119.out 0).trans rfl, (blk_cell BK119.out 1).trans rfl⟩ (fun hHeld => ?_)
                  clear hK K
                  refine norm_ (a' := ?_) ?_ ?_
                  rotate_left
                  · show Act.put _ (some 29) _ = _
                    simp only [Act.put, List.setIfInBounds_toArray, List.set_cons_zero, List.set_cons_succ, i64_w, i32_w]
                    rfl
                  exact norm_ (by simp only [putAll, Act.put, List.setIfInBounds_toArray, List.set_cons_zero, List.set_cons_succ]) (hCont (v124, v127) _ ⟨hHeld, (by (with_reducible repeat (first | apply Kd.R_alloc | apply Kd.R_drewN | apply Kd.R_drew)); exact Kd.R_mono HO125.out (fun _ hk => ⟨hk.2, hk.1.2⟩)), (by (with_reducible repeat (first | apply Kd.R_alloc | apply Kd.R_drewN | apply Kd.R_drew)); exact Kd.R_mono HO128.out (fun _ hk => ⟨hk.1.2, hk.2⟩)), (by (with_reducible repeat (first | refine blk_drewN ?_ _ | refine blk_drew ?_ | refine blk_alloc ?_ _)); exact BK119.out), (by repeat (first | (with_reducible first | exact HB.out | apply below_alloc | apply pw_below_drewN | apply below_drew1 | refine below_set ?_ GE119.out) | exact HB.out))⟩)
                · skip
                  refine Kd.R_lit_step k24 _ 24 ?hg (N := 29) ?hd (xs := ([(⟨a1_0, a1_1⟩ : S24)] : List (S24))) (inner := [.int .i64 a1_0, .int .i64 a1_1]) (ok := fun _ => True) (okp := fun _ => True) ?hr ?hp (fun _ hk => hk) trivial (Below.refl _ _) (Nat.le_refl _) (by simp) ?_; (case hd => rfl); (case hg => rfl); (case hr => first | (go_simp; done) | (go_simp; rfl)); (case hp => exact (Reps.c2 (show Kd.M k24 _ _ _ (⟨a1_0, a1_1⟩ : S24) [.int .i64 a1_0, .int .i64 a1_1] from (k24_mkM _ _ _ (⟨a1_0, a1_1⟩ : S24) )) (Reps.none _ _)))
                  intro v127 w26 ho27 hb hg_ hnew_
                  clear hg_ hnew_
                  (first | rw [← Ny126.out] at ho27 | (simp only [Int.reduceToNat] at ho27; rw [← Ny126.out] at ho27))
                  have n0_ := Aside0.mk (Kd.R_lower (Kd.R_newB ho27 (g := gb119) (o := .cells #[.int .i64 a1_0, .int .i64 a1_1] 24 (0, 0)) (by (with_reducible repeat (first | refine blk_drewN ?_ _ | refine blk_drew ?_ | refine blk_alloc ?_ _)); exact BK119.out)) (below_size (by repeat (first | (with_reducible first | exact HB.out | apply below_alloc | apply pw_below_drewN | apply below_drew1 | refine below_set ?_ GE119.out) | exact HB.out))))
                  have n1_ := Aside0.mk (blk_below (g := gb119) (o := .cells #[.int .i64 a1_0, .int .i64 a1_1] 24 (0, 0)) (by (with_reducible repeat (first | refine blk_drewN ?_ _ | refine blk_drew ?_ | refine blk_alloc ?_ _)); exact BK119.out) hb)
                  have n2_ := Aside0.mk (below_step (by repeat (first | (with_reducible first | exact HB.out | apply below_alloc | apply pw_below_drewN | apply below_drew1 | refine below_set ?_ GE119.out) | exact HB.out)) hb)
                  clear BK119
                  clear HB
                  have HO128 := n0_
                  have BK119 := n1_
                  have HB := n2_
                  clear n0_ n1_ n2_
                  clear hb ho27
                  refine hK.out _ _ ⟨(blk_cell BK119.out 0).trans rfl, (blk_cell BK119.out 1).trans rfl⟩ (fun hHeld => ?_)
                  clear hK K
                  refine norm_ (a' := ?_) ?_ ?_
                  rotate_left
                  · show Act.put _ (some 29) _ = _
                    simp only [Act.put, List.setIfInBounds_toArray, List.set_cons_zero, List.set_cons_succ, i64_w, i32_w]
                    rfl
                  refine one_ (i := 1) (N := some 27) #[true, true, true, true, false, false] rfl rfl (by kernel_rfl) (by decide) (fun K hK => ?_)
                  refine goes_ Try.func25 (by kernel_rfl) rfl #[.slice A0 l0.length c0] (by rfl) rfl rfl (by (try simp only [List.map_toArray, List.map_cons, List.map_nil]); first | done | rfl | (simp only [List.length_drop, List.length_take]; rfl)) ?_
                  with_reducible refine (api_Pin_25.calls _ _ l0 t123 _ ?side1 ?side2 A20.out).mono ?_
                  (case side1 => repeat (first | exact (Kd.C_below HR0.out HB.out) | (with_reducible refine Kd.C_alloc ?_ _) | (with_reducible refine Kd.C_drewN ?_ _) | (with_reducible refine Kd.C_drew ?_)))
                  (case side2 => exact HC0.out)
                  rintro e w28 ⟨v124, rfl, ho0, hb⟩
                  refine ⟨_, rfl, ?_⟩
                  have n0_ := Aside0.mk (Kd.R_elder' (by (with_reducible repeat (first | apply Kd.R_alloc | apply Kd.R_drewN | apply Kd.R_drew)); exact HO128.out) (Kd.R_base ho0) hb)
                  have n1_ := Aside0.mk (Kd.R_lower (Kd.R_newB (Kd.R_new' ho0 (Kd.R_lt (by (with_reducible repeat (first | apply Kd.R_alloc | apply Kd.R_drewN | apply Kd.R_drew)); exact HO128.out))) (g := gb119) (o := .cells #[.int .i64 a1_0, .int .i64 a1_1] 24 (0, 0)) (by (with_reducible repeat (first | refine blk_drewN ?_ _ | refine blk_drew ?_ | refine blk_alloc ?_ _)); exact BK119.out)) (below_size (by repeat (first | (with_reducible first | exact HB.out | apply below_alloc | apply pw_below_drewN | apply below_drew1 | refine below_set ?_ GE119.out) | exact HB.out))))
                  have n2_ := Aside0.mk (blk_below (g := gb119) (o := .cells #[.int .i64 a1_0, .int .i64 a1_1] 24 (0, 0)) (by (with_reducible repeat (first | refine blk_drewN ?_ _ | refine blk_drew ?_ | refine blk_alloc ?_ _)); exact BK119.out) hb)
                  have n3_ := Aside0.mk (below_step (by repeat (first | (with_reducible first | exact HB.out | apply below_alloc | apply pw_below_drewN | apply below_drew1 | refine below_set ?_ GE119.out) | exact HB.out)) hb)
                  clear HO128
                  clear BK119
                  clear HB
                  have HO128 := n0_
                  have HO125 := n1_
                  have BK119 := n2_
                  have HB := n3_
                  clear n0_ n1_ n2_ n3_
                  (try clear hb)
                  (try clear hb2)
                  (try clear hk)
                  (try clear hi)
                  (try clear ho0)
                  refine hK.out _ _ ⟨(blk_cell BK119.out 0).trans rfl, (blk_cell BK119.out 1).trans rfl⟩ (fun hHeld => ?_)
                  clear hK K
                  refine norm_ (a' := ?_) ?_ ?_
                  rotate_left
                  · show Act.put _ (some 27) _ = _
                    simp only [Act.put, List.setIfInBounds_toArray, List.set_cons_zero, List.set_cons_succ, i64_w, i32_w]
                    rfl
                  exact norm_ (by simp only [putAll, Act.put, List.setIfInBounds_toArray, List.set_cons_zero, List.set_cons_succ]) (hCont (v124, v127) _ ⟨hHeld, (by (with_reducible repeat (first | apply Kd.R_alloc | apply Kd.R_drewN | apply Kd.R_drew)); exact Kd.R_mono HO125.out (fun _ hk => ⟨hk.1.2, hk.2⟩)), (by (with_reducible repeat (first | apply Kd.R_alloc | apply Kd.R_drewN | apply Kd.R_drew)); exact Kd.R_mono HO128.out (fun _ hk => ⟨hk.2, hk.1.2⟩)), (by (with_reducible repeat (first | refine blk_drewN ?_ _ | refine blk_drew ?_ | refine blk_alloc ?_ _)); exact BK119.out), (by repeat (first | (with_reducible first | exact HB.out | apply below_alloc | apply pw_below_drewN | apply below_drew1 | refine below_set ?_ GE119.out) | exact HB.out))⟩)
              rintro ⟨v124, v127⟩ w29 ⟨hS_, h0_, h1_, h2_, h3_⟩
              have n0_ : Aside0 (Kd.R k24 24 w29 w.heap.size (fun k_ => some k_ ≠ (v127 : Value).ownBlock ∧ k_ ≠ gb119) v124 t123) := ⟨h0_⟩
              have n1_ : Aside0 (Kd.R k24 24 w29 w.heap.size (fun k_ => some k_ ≠ (v124 : Value).ownBlock ∧ k_ ≠ gb119) v127 y126) := ⟨h1_⟩
              have n2_ : Aside0 (w29.heap[gb119]? = some (.cells #[.int .i64 a1_0, .int .i64 a1_1] 24 (0, 0))) := ⟨h2_⟩
              have n3_ : Aside0 (Below w.heap.size w w29) := ⟨h3_⟩
              clear BK119
              clear HB
              clear h0_ h1_ h2_ h3_
              have HO125 := n0_
              have HO128 := n1_
              have BK119 := n2_
              have HB := n3_
              clear n0_ n1_ n2_ n3_
              have hHeld : w29.cell? ⟨gb119, 0, none⟩ = some (.int .i64 a1_0) ∧ w29.cell? ⟨gb119, 1, none⟩ = some (.int .i64 a1_1) := hS_
              obtain ⟨Ao31, co31, eo31⟩ := Kd.R_slice HO128.out
              (first | subst eo31 | (injection eo31 with f1_ f2_ f3_; have f4_ := f1_.symm; have f5_ := f3_.symm; clear f1_ f2_ f3_; subst f4_; subst f5_))
              refine norm_ (a' := ?_) ?_ ?_
              rotate_left
              · simp only [putAll, Act.put, List.setIfInBounds_toArray, List.set_cons_zero, List.set_cons_succ]
                rfl
              refine one_ (i := 4) (N := some 30) #[true, true, true, true, true, false] rfl rfl (by kernel_rfl) (by decide) (fun K hK => ?_)
              refine Kd.R_append_rows_step k24 (w0 := w) w.heap.size (by rfl) (.tmp 27) (.tmp 29) 22 24 (.agg #[(.int .i64 0), (.int .i64 0)]) 16 rfl Try.underlying22 info24 rfl (by decide) (by omega) v124 t123 y126 _ _ _ (fun k_ => some k_ ≠ (.slice Ao31 y126.length co31 : Value).ownBlock ∧ k_ ≠ gb119) (fun _ => False) rfl rfl ?aO ?aR (fun _ _ h => h) (fun _ h => h.elim) ?aF ?aB ?aS ?aL ?_
              (case aR => (try change Kd.C k24 _ _ _ _); repeat (first | exact (Kd.R_reads' HO128.out).2.2 | (with_reducible refine Kd.C_alloc ?_ _) | (with_reducible refine Kd.C_drewN ?_ _) | (with_reducible refine Kd.C_drew ?_)))
              (case aB => exact (by repeat (first | (with_reducible first | exact HB.out | apply below_alloc | apply pw_below_drewN | apply below_drew1 | refine below_set ?_ GE119.out) | exact HB.out)))
              (case aF => exact (fun k_ hk => ⟨Kd.fresh' (Kd.R_lt (by (with_reducible repeat (first | apply Kd.R_alloc | apply Kd.R_drewN | apply Kd.R_drew)); exact HO128.out)) k_ hk, Kd.freshB (g := gb119) (o := .cells #[.int .i64 a1_0, .int .i64 a1_1] 24 (0, 0)) (by (with_reducible repeat (first | refine blk_drewN ?_ _ | refine blk_drew ?_ | refine blk_alloc ?_ _)); exact BK119.out) k_ hk⟩))
              (case aO => exact (by (with_reducible repeat (first | apply Kd.R_alloc | apply Kd.R_drewN | apply Kd.R_drew)); exact HO125.out))
              (case aS => exact (below_size (by repeat (first | (with_reducible first | exact HB.out | apply below_alloc | apply pw_below_drewN | apply below_drew1 | refine below_set ?_ GE119.out) | exact HB.out))))
              (case aL => have := LMc21.out; omega)
              intro v130 w30 ho hb hg hat
              rw [← Ny129.out] at ho
              have n0_ := Aside0.mk (blk_grown (g := gb119) (o := .cells #[.int .i64 a1_0, .int .i64 a1_1] 24 (0, 0)) (by (with_reducible repeat (first | refine blk_drewN ?_ _ | refine blk_drew ?_ | refine blk_alloc ?_ _)); exact BK119.out) hg (Kd.R_away HO125.out (fun _ hk => hk.2)))
              have n1_ := Aside0.mk (Kd.R_after (ok := (fun k_ => k_ ≠ gb119)) (by (with_reducible repeat (first | apply Kd.R_alloc | apply Kd.R_drewN | apply Kd.R_drew)); exact Kd.R_mono HO128.out (fun _ hk => ⟨hk.2, hk.1⟩)) hg hat)
              have n2_ := Aside0.mk (hb)
              have n3_ := Aside0.mk (ho)
              clear BK119
              clear HO128
              clear HB
              clear HO125
              have BK119 := n0_
              have HO128 := n1_
              have HB := n2_
              have HO131 := n3_
              clear n0_ n1_ n2_ n3_
              clear ho hb hg hat
              refine hK.out _ _ ⟨(blk_cell BK119.out 0).trans rfl, (blk_cell BK119.out 1).trans rfl⟩ (fun hHeld => ?_)
              clear hK K
              refine norm_ (a' := ?_) ?_ ?_
              rotate_left
              · show Act.put _ (some 30) _ = _
                simp only [Act.put, List.setIfInBounds_toArray, List.set_cons_zero, List.set_cons_succ, i64_w, i32_w]
                rfl
              refine pure_ (i := 5) (N := some 6) (v := ?_) (a' := ?_) #[true, true, true, true, true, true] rfl rfl (by kernel_rfl) (fun _ _ _ h => h) (Or.inl ⟨by rfl, ?_⟩) ?_ ?_
              rotate_left
              · intro w'
                go_simp
                with_reducible rfl
              rotate_left
              · simp only [Act.put, List.setIfInBounds_toArray, List.set_cons_zero, List.set_cons_succ, i64_w, i32_w]
                rfl
              refine done_ (by kernel_rfl) ?_
              obtain ⟨Ao32, co32, eo32⟩ := Kd.R_slice HO131.out
              subst eo32
              try go_wp2_with (first | ((with_reducible refine gate_callee (f := 26) rfl ?_); refine goesL_ (some 32) rfl rfl Try.func26 (by kernel_rfl) rfl #[.slice Ao32 y129.length co32, .func (.func 27) #[] #[]] rfl (by (try simp only [List.map_toArray, List.map_cons, List.map_nil]); first | done | rfl | (simp only [List.length_drop, List.length_take]; rfl)) ?_; (with_reducible refine (api_Pin_pin_Add_1.calls (fun k_ => some k_ = (.slice Ao32 y129.length co32 : Value).ownBlock) (.slice Ao32 y129.length co32) y129  t132 w _ ?side1 ?side2 A22.out).mono ?_); (case side1 => repeat (first | (with_reducible first | exact HB.out | apply below_alloc | apply pw_below_drewN | apply below_drew1 | refine below_set ?_ GE119.out) | exact HB.out)); (case side2 => exact Kd.R_tight rfl HO131.out); rintro e w33 ⟨rfl, hy0, hb, hkp⟩; refine ⟨_, rfl, ?_⟩; have n0_ := Aside0.mk (blk_kept (by (with_reducible repeat (first | refine blk_drewN ?_ _ | refine blk_drew ?_ | refine blk_alloc ?_ _)); exact BK119.out) hkp (fun hs_ => (fun e_ => (Kd.R_away HO131.out (fun _ hk => hk.2)) e_) hs_)); have n1_ := Aside0.mk (Kd.R_mono (ok' := fun k_ => some k_ ≠ (.slice Ao32 y129.length co32 : Value).ownBlock ∧ k_ ≠ gb119) (Kd.R_keptB (HO128.out) hkp (fun k_ hk_ hs_ => (hk_.2) hs_)) (fun k_ hk_ => ⟨hk_.1.2, hk_.1.1⟩)); have n2_ := Aside0.mk (Kd.R_reok rfl hy0 (fun k_ e_ => HO131.out.1 k_ e_)); have n3_ := Aside0.mk (hb); clear BK119; clear HO128; clear HO131; clear HB; have BK119 := n0_; have HO128 := n1_; have HO131 := n2_; have HB := n3_; clear n0_ n1_ n2_ n3_; (try clear hb); (try clear hkp); (try clear hy0)))
              go_ret2
              exact ⟨_, by first | rfl | (simp [errW_none, errW_some] <;> rfl) | (simp [*, errW_none, errW_some] <;> rfl), by (with_reducible repeat (first | apply Kd.R_alloc | apply Kd.R_drewN | apply Kd.R_drew)); exact Kd.R_mono HO131.out (fun _ hk => trivial), by repeat (first | (with_reducible first | exact HB.out | apply below_alloc | apply pw_below_drewN | apply below_drew1 | refine below_set ?_ GE119.out) | exact HB.out)⟩
            · rw [if_neg c21] at H
              exact absurd H (by simp)

/-! ### sextonref17_Of: function 14 -/
def sextonref17_Of.l0 : Nat → List (S24) → Int → Int → Option (Int × Bool)
  | 0, _, _, _ => none
  | k + 1, x0, x1, x6 => if x6 < (x0.length : Int) then (if 0 ≤ x6 then (if ((rd_T24 x0 x6).f0) = x1 then (some ((rd_T24 x0 x6).f1, true)) else (sextonref17_Of.l0 k x0 x1 (wrap64 (x6 + 1)))) else (none)) else (some (0, false))
def sextonref17_Of.f (k : Nat) (l0 : List (S24)) (a1 : Int) : Option (Int × Bool) := sextonref17_Of.l0 k l0 a1 0
theorem sextonref17_Of.mono_l : ∀ k, (∀ y0 y1 y2, LeO (sextonref17_Of.l0 k y0 y1 y2) (sextonref17_Of.l0 (k + 1) y0 y1 y2))
  | 0 => fun _ _ _ r h => by simp [sextonref17_Of.l0] at h
  | k + 1 => by
    have ih0 := sextonref17_Of.mono_l k
    · intro y0 y1 y2
      unfold sextonref17_Of.l0
      repeat' first
      | (with_reducible exact ih0 _ _ _)
      | (with_reducible exact LeO.refl _)
      | (with_reducible exact LeO.none _)
      | (with_reducible refine LeO.ite ?_ ?_)
      | (with_reducible refine LeO.bind ?_ (fun _ => ?_))
      | exact ih0 _ _ _
      | exact LeO.none _
      | refine LeO.ite ?_ ?_
      | refine LeO.bind ?_ (fun _ => ?_)
theorem sextonref17_Of.mono : ∀ a0 a1 k, LeO (sextonref17_Of.f k a0 a1) (sextonref17_Of.f (k + 1) a0 a1) := by
  intro a0 a1 k
  have ih0 := sextonref17_Of.mono_l k
  unfold sextonref17_Of.f
  repeat' first
      | (with_reducible exact ih0 _ _ _)
      | (with_reducible exact LeO.refl _)
      | (with_reducible exact LeO.none _)
      | (with_reducible refine LeO.ite ?_ ?_)
      | (with_reducible refine LeO.bind ?_ (fun _ => ?_))
      | exact ih0 _ _ _
      | exact LeO.none _
      | refine LeO.ite ?_ ?_
      | refine LeO.bind ?_ (fun _ => ?_)
set_option maxHeartbeats 8000000 in
set_option maxRecDepth 100000 in
theorem sextonref17_Of.calls (k : Nat) (A0 : Option Addr) (c0 : Nat) (l0 : List (S24)) (a1 : Int) (r1 : Int) (r2 : Bool) (w : World) (hr0 : Kd.C k24 w A0 l0.length l0) (hc0 : l0.length ≤ c0) (h : sextonref17_Of.f k l0 a1 = some (r1, r2)) :
    Calls Try.prog 14 #[.slice A0 l0.length c0, .int .i64 a1] w fun e w' => e = .returned (.tuple #[.int .i64 r1, .bool r2]) ∧ Drawn0 w w' := by
  have HR0 := Aside0.mk hr0
  have HC0 := Aside0.mk hc0
  clear hr0 hc0
  have H : (sextonref17_Of.l0 k l0 a1 0) = some (r1, r2) := h
  clear h
  have H' := Aside0.mk H
  clear H
  go_enter Try.func14, Try.ntmps14
  go_wp2
  go_loopg [6] k (fun kq v6 w' => ∃ (x6_1 : Int), v6 = .int .i64 x6_1 ∧ Aside0 (sextonref17_Of.l0 kq l0 a1 x6_1 = some (r1, r2)) ∧ Aside0 (kq ≤ k) ∧ Drawn0 w w')
  case atStart => exact ⟨(0), (by first | rfl | (simp; done) | (simp [*]; done)), H', ⟨Nat.le_refl _⟩, by repeat (first | exact Drawn0.refl _ | apply Drawn0.step)⟩
  case round =>
    clear H'
    try clear c1
    try clear p2
    obtain ⟨x6_1, rfl, HA, HK1, ⟨m1, rfl⟩⟩ := hrel
    cases gk with
    | zero => exact absurd HA.out (by simp [sextonref17_Of.l0])
    | succ k1 =>
      have H := HA.out
      clear HA
      simp only [sextonref17_Of.l0] at H
      by_cases c3 : x6_1 < (l0.length : Int)
      · rw [if_pos c3] at H
        have c3b0 : decide (x6_1 < (l0.length : Int)) = true := decide_eq_true c3
        clear c3
        by_cases c4 : 0 ≤ x6_1
        · rw [if_pos c4] at H
          have c4b0 : decide (0 ≤ x6_1) = true := decide_eq_true c4
          clear c4
          by_cases c5 : ((rd_T24 l0 x6_1).f0) = a1
          · rw [if_pos c5] at H
            have c5b0 : (((rd_T24 l0 x6_1).f0) == a1) = true := beq_iff_eq.mpr c5
            have c5b1 : (((rd_T24 l0 x6_1).f0) != a1) = false := bne_eq_false_iff_eq.mpr c5
            clear c5
            simp only [Option.some.injEq, Prod.mk.injEq] at H
            obtain ⟨rfl, rfl⟩ := H
            have p133 : 0 ≤ (x6_1 : Int) := of_decide_eq_true (by first | (with_reducible assumption) | assumption)
            have q133 : x6_1 < (l0.length : Int) := of_decide_eq_true (by first | (with_reducible assumption) | assumption)
            obtain ⟨ad133, e133, hx133_0, hx133_1⟩ := at_T24 HR0.out x6_1 p133 q133
            cases e133
            replace p133 := eq_true p133
            replace q133 := eq_true q133
            have p134 : 0 ≤ (x6_1 : Int) := of_decide_eq_true (by first | (with_reducible assumption) | assumption)
            have q134 : x6_1 < (l0.length : Int) := of_decide_eq_true (by first | (with_reducible assumption) | assumption)
            obtain ⟨ad134, e134, hx134_0, hx134_1⟩ := at_T24 HR0.out x6_1 p134 q134
            obtain rfl : ad133 = ad134 := (by injection e134)
            replace p134 := eq_true p134
            replace q134 := eq_true q134
            go_wp2
            go_ret2
            exact ⟨by first | rfl | (simp; done) | (simp [*]; done), by repeat (first | exact Drawn0.refl _ | apply Drawn0.step)⟩
          · rw [if_neg c5] at H
            have c5b0 : (((rd_T24 l0 x6_1).f0) == a1) = false := beq_eq_false_iff_ne.mpr c5
            have c5b1 : (((rd_T24 l0 x6_1).f0) != a1) = true := bne_iff_ne.mpr c5
            have H' := Aside0.mk H
            clear H
            have p133 : 0 ≤ (x6_1 : Int) := of_decide_eq_true (by first | (with_reducible assumption) | assumption)
            have q133 : x6_1 < (l0.length : Int) := of_decide_eq_true (by first | (with_reducible assumption) | assumption)
            obtain ⟨ad133, e133, hx133_0, hx133_1⟩ := at_T24 HR0.out x6_1 p133 q133
            cases e133
            replace p133 := eq_true p133
            replace q133 := eq_true q133
            go_wp2
            go_roundg k1
            case measure => have := HK1.out; omega
            case rel => exact ⟨(wrap64 (x6_1 + 1)), (by first | rfl | (simp; done) | (simp [*]; done)), H', ⟨by have := HK1.out; omega⟩, by repeat (first | exact Drawn0.refl _ | apply Drawn0.step)⟩
        · rw [if_neg c4] at H
          exact absurd H (by simp)
      · rw [if_neg c3] at H
        have c3b0 : decide (x6_1 < (l0.length : Int)) = false := decide_eq_false c3
        clear c3
        simp only [Option.some.injEq, Prod.mk.injEq] at H
        obtain ⟨rfl, rfl⟩ := H
        go_wp2
        go_ret2
        exact ⟨by first | rfl | (simp; done) | (simp [*]; done), by repeat (first | exact Drawn0.refl _ | apply Drawn0.step)⟩

end Go.Proofs.Ytkdpjgcimnchlaa.P
