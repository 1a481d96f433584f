/- Part 6 of the walk. -/
import Derived.Test.YtfpfpckocemmdaaGreatCDoes05
set_option linter.unusedVariables false
set_option linter.unusedSimpArgs false
set_option maxHeartbeats 8000000
set_option maxRecDepth 100000
namespace Go.Proofs.YtfpfpckocemmdaaGreat.P
open Go.RowKit Go.Proofs.YtfpfpckocemmdaaGreatW.PrintWords Go.Proofs.YtfpfpckocemmdaaGreatW.PrintLast Go.Proofs.YtfpfpckocemmdaaGreatW.PrintMore
structure Nod where
 id:Int
 n:Int
 view:Int
 last:Int
 works:Bool
 commit:Int
 log:List ByteArray
 acks:List Int
 votes:List S63
 told:List S28
def Nod.cells (x:Nod) (v6 v7 v8 v9:Value):Array Value:=#[.int .i64 x.id,.int .i64 x.n,.int .i64 x.view,.int .i64 x.last,.bool x.works,.int .i64 x.commit,v6,v7,v8,v9]
def Nd (w:World) (base g:Nat) (ok:Nat→Prop) (x:Nod):Prop:=∃ (v6 v7 v8 v9:Value) (P6 P7 P8 P9:Nat→Prop),
 w.heap[g]?=some (.cells (x.cells v6 v7 v8 v9) 56 (0,0))∧base≤g∧ok g ∧
 Kd.R Kd.string 9 w base P6 v6 x.log∧Kd.R (Kd.int .i64) 3 w base P7 v7 x.acks∧Kd.S k63 63 w base P8 v8 x.votes∧Kd.S k28 28 w base P9 v9 x.told ∧
 (∀ k,P6 k∨P7 k∨P8 k∨P9 k→ok k∧k≠g)∧(∀ k,P6 k→¬ P7 k∧¬ P8 k∧¬ P9 k)∧(∀ k,P7 k→¬ P8 k∧¬ P9 k)∧(∀ k,P8 k→¬ P9 k)
theorem Nd.lt {w:World} {base g:Nat} {ok:Nat→Prop} {x:Nod} (h:Nd w base g ok x):g < w.heap.size:=by
 obtain ⟨_,_,_,_,_,_,_,_,hb,_⟩:=h
 exact (Array.getElem?_eq_some_iff.1 hb).1
theorem Nd.ge {w:World} {base g:Nat} {ok:Nat→Prop} {x:Nod} (h:Nd w base g ok x):base≤g:=by
 obtain ⟨_,_,_,_,_,_,_,_,_,hg,_⟩:=h
 exact hg
theorem Nd.step {w w1:World} {base g:Nat} {ok:Nat→Prop} {x:Nod} (h:Nd w base g ok x) (hm:∀ k,ok k→k < w.heap.size→w1.heap[k]?=w.heap[k]?):Nd w1 base g ok x:=by
 have hlt:=h.lt
 obtain ⟨v6,v7,v8,v9,P6,P7,P8,P9,hb,hg,hok,h6,h7,h8,h9,ho,a6,a7,a8⟩:=h
 exact ⟨v6,v7,v8,v9,P6,P7,P8,P9,(hm g hok hlt).trans hb,hg,hok,Kd.R_step h6 (fun k hk hl=>hm k (ho k (.inl hk)).1 hl),Kd.R_step h7 (fun k hk hl=>hm k (ho k (.inr (.inl hk))).1 hl),Kd.S_step h8 (fun k hk hl=>hm k (ho k (.inr (.inr (.inl hk)))).1 hl),Kd.S_step h9 (fun k hk hl=>hm k (ho k (.inr (.inr (.inr hk)))).1 hl),ho,a6,a7,a8⟩
theorem Nd.below {w w1:World} {base g:Nat} {ok:Nat→Prop} {x:Nod} (h:Nd w base g ok x) (hb:Below w.heap.size w w1):Nd w1 base g ok x:=h.step (fun k _ hk=>hb.block k hk)
theorem Nd.mono {w:World} {base g:Nat} {ok ok':Nat→Prop} {x:Nod} (h:Nd w base g ok x) (hm:∀ k,ok k→ok' k):Nd w base g ok' x:=by
 obtain ⟨v6,v7,v8,v9,P6,P7,P8,P9,hb,hg,hok,h6,h7,h8,h9,ho,a6,a7,a8⟩:=h
 exact ⟨v6,v7,v8,v9,P6,P7,P8,P9,hb,hg,hm g hok,h6,h7,h8,h9,fun k hk=>⟨hm k (ho k hk).1,(ho k hk).2⟩,a6,a7,a8⟩
theorem Nd.bound {w:World} {base g:Nat} {ok:Nat→Prop} {x:Nod} (h:Nd w base g ok x):Nd w base g (fun k=>ok k∧k < w.heap.size∧base≤k) x:=by
 have hlt:=h.lt
 obtain ⟨v6,v7,v8,v9,P6,P7,P8,P9,hb,hg,hok,h6,h7,h8,h9,ho,a6,a7,a8⟩:=h
 refine ⟨v6,v7,v8,v9,_,_,_,_,hb,hg,⟨hok,hlt,hg⟩,Kd.R_bound h6,Kd.R_bound h7,Kd.S_bound h8,Kd.S_bound h9,?_,fun k hk=>⟨fun h=>(a6 k hk.1).1 h.1,fun h=>(a6 k hk.1).2.1 h.1,fun h=>(a6 k hk.1).2.2 h.1⟩,fun k hk=>⟨fun h=>(a7 k hk.1).1 h.1,fun h=>(a7 k hk.1).2 h.1⟩,fun k hk h=>a8 k hk.1 h.1⟩
 rintro k (hk | hk | hk | hk)
 ·exact ⟨⟨(ho k (.inl hk.1)).1,hk.2.2.1,hk.2.1⟩,(ho k (.inl hk.1)).2⟩
 ·exact ⟨⟨(ho k (.inr (.inl hk.1))).1,hk.2.2.1,hk.2.1⟩,(ho k (.inr (.inl hk.1))).2⟩
 ·exact ⟨⟨(ho k (.inr (.inr (.inl hk.1)))).1,hk.2.2.1,hk.2.1⟩,(ho k (.inr (.inr (.inl hk.1)))).2⟩
 ·exact ⟨⟨(ho k (.inr (.inr (.inr hk.1)))).1,hk.2.2.1,hk.2.1⟩,(ho k (.inr (.inr (.inr hk.1)))).2⟩
theorem made_ints (n:Nat):madeCells (Value.int .i64 0).cells n=((List.replicate n (0:Int)).map (Value.int .i64)).toArray:=by
 apply Array.ext
 ·simp [madeCells]
 ·intro i h1 h2
  simp [madeCells,Value.cells,Nat.mod_one]
theorem below_at {w W:World} {base g j:Nat} {v:Value} (h:Below base w W) (hg:base≤g):Below base w (W.setCell ⟨g,j,none⟩ v) :=
 h.trans ⟨rfl,rfl,rfl,by simp [World.setCell],fun k hk=>Below.heap_setCell W ⟨g,j,none⟩ v k (by show k≠g;omega)⟩
theorem kept_at {w W:World} {ok:Nat→Prop} {g j:Nat} {v:Value} (h:Kept w W ok) (hg:ok g):Kept w (W.setCell ⟨g,j,none⟩ v) ok :=
 ⟨by have:=h.1;simpa [World.setCell] using this,fun i hi hno=>(Below.heap_setCell W ⟨g,j,none⟩ v i (fun e=>hno (by rw [show i=g from e];exact hg))).trans (h.2 i hi hno)⟩
theorem kept_alloc_ {w W:World} {ok:Nat→Prop} (h:Kept w W ok) (o:Obj):Kept w (W.alloc o) ok :=
 ⟨by have:=h.1;simp;omega,fun i hi hno=>(Below.heap_alloc W o i (by have:=h.1;omega)).trans (h.2 i hi hno)⟩
theorem below_new {base:Nat} {w W:World} (h:Below base w W) (hb:base≤w.heap.size) (o:Obj):Below base w (W.alloc o) :=
 h.trans ⟨rfl,rfl,rfl,by simp,fun k hk=>Below.heap_alloc W o k (by have:=h.size;omega)⟩
def Nod.clear (x:Nod):Nod:={ x with acks:=List.replicate x.n.toNat 0,votes:=[] }
theorem clear_calls (x:Nod) (w:World) (base g:Nat) (ok:Nat→Prop) (hn0:0≤x.n) (hn1:x.n≤1000) (h:Nd w base g ok x) :
  Calls Tryz.prog 52 #[.pointer (some ⟨g,0,none⟩)] w fun e w'=>e=.returned (.tuple #[])∧Nd w' base g (fun k=>ok k∨w.heap.size≤k) x.clear∧Kept w w' ok∧Below base w w':=by
 have hu56:=Tryz.underlying56
 have hu26:=Tryz.underlying26
 have HN:=sd h.bound
 have hlt:=h.lt
 have hge:=h.ge
 obtain ⟨v6,v7,v8,v9,P6,P7,P8,P9,hb,-,hok,h6,h7,h8,h9,ho,a6,a7,a8⟩:=h.bound
 clear h
 have HB:=sd hb
 have H6:=sd h6
 have H9:=sd h9
 have HO:=sd ho
 have HA6:=sd a6
 have HA7:=sd a7
 have HA8:=sd a8
 have HOK:=sd hok
 obtain ⟨n,hn⟩:=Int.eq_ofNat_of_zero_le hn0
 have HLIM:=sd (show n≤1000 by omega)
 have hm:∀ W:World,(Instr.makeSlice 23 x.n x.n).run Tryz.prog W=.ok (.slice (some ⟨W.heap.size,0,none⟩) n n) (W.alloc (.cells (madeCells (Value.int .i64 0).cells n) 3)):=fun W=>by
  obtain ⟨i,hi,hz,hs,hbb⟩:=info_parts info3
  have h:=run_make (P:=Tryz.prog) W 23 3 i (.int .i64 0) Tryz.underlying23 hi hz .i64 .i64 x.n x.n (by omega) (by omega) (by rw [hbb];omega) (by omega)
  rw [hn] at h ⊢
  simp only [Int.toNat_natCast,hs,Nat.mul_one] at h
  exact h
 have hc1:w.cell? ⟨g,1,none⟩=some (.int .i64 x.n):=blk_cell hb 1
 have hc7:∀ o,(w.alloc o).cell? ⟨g,7,none⟩=some v7:=fun o=>blk_cell (blk_alloc hb o) 7
 have hf7:∀ o,(w.alloc o).frozen? ⟨g,7,none⟩=false:=fun o=>blk_frozen (blk_alloc hb o) 7
 have hput7:∀ u,(w.setCell ⟨g,7,none⟩ u).heap[g]?=some (.cells (x.cells v6 u v8 v9) 56 (0,0)):=fun u=>blk_put (cs':=x.cells v6 u v8 v9) hb 7 u rfl
 have hc8:∀ u o,((w.setCell ⟨g,7,none⟩ u).alloc o).cell? ⟨g,8,none⟩=some v8:=fun u o=>blk_cell (blk_alloc (hput7 u) o) 8
 have hf8:∀ u o,((w.setCell ⟨g,7,none⟩ u).alloc o).frozen? ⟨g,8,none⟩=false:=fun u o=>blk_frozen (blk_alloc (hput7 u) o) 8
 have HPUT:=sd (fun u t=>(blk_put (cs':=x.cells v6 u t v9) (hput7 u) 8 t rfl:((w.setCell ⟨g,7,none⟩ u).setCell ⟨g,8,none⟩ t).heap[g]?=_))
 clear hput7
 have HN0:=sd hn
 generalize hmc:madeCells (Value.int .i64 0).cells n=mc at *
 clear hb hok h6 h7 h8 h9 ho a6 a7 a8 hn hn0 hn1
 go_enter Tryz.func52,Tryz.ntmps52
 go_wp2
 go_end0
 refine ⟨rfl,?_,kept_alloc_ (kept_at (kept_at (Kept.refl _ _) HOK.out.1) HOK.out.1) _,below_new (below_at (below_at (Below.refl base w) hge) hge) (by omega) _⟩
 have hsz:((w.setCell ⟨g,7,none⟩ (.slice (some ⟨w.heap.size,0,none⟩) n n)).setCell ⟨g,8,none⟩ (.slice none 0 0)).heap.size=w.heap.size:=by simp [World.setCell]
 have hnew:=x_alloc_new ((w.setCell ⟨g,7,none⟩ (.slice (some ⟨w.heap.size,0,none⟩) n n)).setCell ⟨g,8,none⟩ (.slice none 0 0)) (.cells mc 3)
 rw [hsz] at hnew
 have hcl:x.clear={ x with acks:=List.replicate n 0,votes:=[] }:=by unfold Nod.clear;rw [HN0.out];simp
 rw [hcl]
 have hr:=x_R_scalar (Value.int .i64) (fun _=>rfl) 3 (((w.setCell ⟨g,7,none⟩ (.slice (some ⟨w.heap.size,0,none⟩) n n)).setCell ⟨g,8,none⟩ (.slice none 0 0)).alloc (.cells mc 3)) base (fun k=>k=w.heap.size) w.heap.size (List.replicate n 0) (by omega) (by rw [hnew,← hmc,made_ints]) (by simp [maxLen];have:=HLIM.out;omega) rfl
 simp only [List.length_replicate] at hr
 have lt6:∀ k,P6 k→k < w.heap.size∧k≠g:=fun k hk=>⟨(HO.out k (.inl hk)).1.2.1,(HO.out k (.inl hk)).2⟩
 have lt9:∀ k,P9 k→k < w.heap.size∧k≠g:=fun k hk=>⟨(HO.out k (.inr (.inr (.inr hk)))).1.2.1,(HO.out k (.inr (.inr (.inr hk)))).2⟩
 refine ⟨v6,.slice (some ⟨w.heap.size,0,none⟩) n n,.slice none 0 0,v9,P6,fun k=>k=w.heap.size,fun _=>False,P9,blk_alloc (HPUT.out _ _) _,hge,.inl HOK.out.1,Kd.R_alloc (Kd.R_far (Kd.R_far H6.out (fun k hk=>(lt6 k hk).2) _) (fun k hk=>(lt6 k hk).2) _) _,hr,Kd.S_nil _ _ _ _ _,Kd.S_alloc (Kd.S_far (Kd.S_far H9.out (fun k hk=>(lt9 k hk).2) _) (fun k hk=>(lt9 k hk).2) _) _,?_,?_,?_,?_⟩
 ·rintro k (hk | hk | hk | hk)
  ·exact ⟨.inl (HO.out k (.inl hk)).1.1,(lt6 k hk).2⟩
  ·subst hk;exact ⟨.inr (Nat.le_refl _),by omega⟩
  ·exact hk.elim
  ·exact ⟨.inl (HO.out k (.inr (.inr (.inr hk)))).1.1,(lt9 k hk).2⟩
 ·intro k hk
  exact ⟨fun h=>by have:=(lt6 k hk).1;omega,fun h=>h,(HA6.out k hk).2.2⟩
 ·intro k hk
  subst hk
  exact ⟨fun h=>h,fun h=>by have:=(lt9 _ h).1;omega⟩
 ·exact fun k hk=>hk.elim
end Go.Proofs.YtfpfpckocemmdaaGreat.P
