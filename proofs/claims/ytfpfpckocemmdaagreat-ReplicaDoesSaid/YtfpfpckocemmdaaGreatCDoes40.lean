/- Part 40 of the walk. -/
import Derived.Test.YtfpfpckocemmdaaGreatCDoes39
set_option linter.unusedVariables false
set_option linter.unusedSimpArgs false
set_option maxHeartbeats 8000000
set_option maxRecDepth 100000
namespace Go.Proofs.YtfpfpckocemmdaaGreat.P
open Go.RowKit Go.Proofs.YtfpfpckocemmdaaGreatW.PrintWords Go.Proofs.YtfpfpckocemmdaaGreatW.PrintLast Go.Proofs.YtfpfpckocemmdaaGreatW.PrintMore
theorem cells9 {W:World} {g t:Nat}  {a0 a1 a2 a3 a4 a5 a6 a7 a8:Value} (h:W.heap[g]?=some (.cells #[a0,a1,a2,a3,a4,a5,a6,a7,a8] t (0,0))):W.cell? ⟨g,0,none⟩=some a0∧W.cell? ⟨g,1,none⟩=some a1∧W.cell? ⟨g,2,none⟩=some a2∧W.cell? ⟨g,3,none⟩=some a3∧W.cell? ⟨g,4,none⟩=some a4∧W.cell? ⟨g,5,none⟩=some a5∧W.cell? ⟨g,6,none⟩=some a6∧W.cell? ⟨g,7,none⟩=some a7∧W.cell? ⟨g,8,none⟩=some a8 :=
 ⟨blk_cell h 0,blk_cell h 1,blk_cell h 2,blk_cell h 3,blk_cell h 4,blk_cell h 5,blk_cell h 6,blk_cell h 7,blk_cell h 8⟩
theorem cells8 {W:World} {g t:Nat}  {a0 a1 a2 a3 a4 a5 a6 a7:Value} (h:W.heap[g]?=some (.cells #[a0,a1,a2,a3,a4,a5,a6,a7] t (0,0))):W.cell? ⟨g,0,none⟩=some a0∧W.cell? ⟨g,1,none⟩=some a1∧W.cell? ⟨g,2,none⟩=some a2∧W.cell? ⟨g,3,none⟩=some a3∧W.cell? ⟨g,4,none⟩=some a4∧W.cell? ⟨g,5,none⟩=some a5∧W.cell? ⟨g,6,none⟩=some a6∧W.cell? ⟨g,7,none⟩=some a7 :=
 ⟨blk_cell h 0,blk_cell h 1,blk_cell h 2,blk_cell h 3,blk_cell h 4,blk_cell h 5,blk_cell h 6,blk_cell h 7⟩
theorem cells4 {W:World} {g t:Nat}  {a0 a1 a2 a3:Value} (h:W.heap[g]?=some (.cells #[a0,a1,a2,a3] t (0,0))):W.cell? ⟨g,0,none⟩=some a0∧W.cell? ⟨g,1,none⟩=some a1∧W.cell? ⟨g,2,none⟩=some a2∧W.cell? ⟨g,3,none⟩=some a3 :=
 ⟨blk_cell h 0,blk_cell h 1,blk_cell h 2,blk_cell h 3⟩
theorem fr_of {W:World} {g t:Nat} {cs:Array Value} (h:W.heap[g]?=some (.cells cs t (0,0))) (j:Nat):W.frozen? ⟨g,j,none⟩=false:=blk_frozen h j
theorem far9 {W:World} {g k t:Nat} {cs:Array Value} (h:W.heap[k]?=some (.cells cs t (0,0))) (hne:k≠g) (a0 a1 a2 a3 a4 a5 a6 a7 a8:Value):(((((((((W.setCell ⟨g,0,none⟩ a0).setCell ⟨g,1,none⟩ a1).setCell ⟨g,2,none⟩ a2).setCell ⟨g,3,none⟩ a3).setCell ⟨g,4,none⟩ a4).setCell ⟨g,5,none⟩ a5).setCell ⟨g,6,none⟩ a6).setCell ⟨g,7,none⟩ a7).setCell ⟨g,8,none⟩ a8).heap[k]?=some (.cells cs t (0,0)) :=
 (blk_far (p:=⟨g,8,none⟩) (blk_far (p:=⟨g,7,none⟩) (blk_far (p:=⟨g,6,none⟩) (blk_far (p:=⟨g,5,none⟩) (blk_far (p:=⟨g,4,none⟩) (blk_far (p:=⟨g,3,none⟩) (blk_far (p:=⟨g,2,none⟩) (blk_far (p:=⟨g,1,none⟩) (blk_far (p:=⟨g,0,none⟩) h hne a0) hne a1) hne a2) hne a3) hne a4) hne a5) hne a6) hne a7) hne a8)
theorem keep9 {W:World} {g:Nat} (k:Nat) (hne:k≠g) (a0 a1 a2 a3 a4 a5 a6 a7 a8:Value):(((((((((W.setCell ⟨g,0,none⟩ a0).setCell ⟨g,1,none⟩ a1).setCell ⟨g,2,none⟩ a2).setCell ⟨g,3,none⟩ a3).setCell ⟨g,4,none⟩ a4).setCell ⟨g,5,none⟩ a5).setCell ⟨g,6,none⟩ a6).setCell ⟨g,7,none⟩ a7).setCell ⟨g,8,none⟩ a8).heap[k]?=W.heap[k]?:=setCells_far [a0,a1,a2,a3,a4,a5,a6,a7,a8] 0 k hne
theorem size9 {W:World} {g:Nat} (a0 a1 a2 a3 a4 a5 a6 a7 a8:Value):(((((((((W.setCell ⟨g,0,none⟩ a0).setCell ⟨g,1,none⟩ a1).setCell ⟨g,2,none⟩ a2).setCell ⟨g,3,none⟩ a3).setCell ⟨g,4,none⟩ a4).setCell ⟨g,5,none⟩ a5).setCell ⟨g,6,none⟩ a6).setCell ⟨g,7,none⟩ a7).setCell ⟨g,8,none⟩ a8).heap.size=W.heap.size:=(setCells_same g [a0,a1,a2,a3,a4,a5,a6,a7,a8] 0 W).2.2.2
theorem putr9 {W:World} {g t:Nat} {b0 b1 b2 b3 b4 b5 b6 b7 b8:Value} (h:W.heap[g]?=some (.cells #[b0,b1,b2,b3,b4,b5,b6,b7,b8] t (0,0))) (a0 a1 a2 a3 a4 a5 a6 a7 a8:Value):(((((((((W.setCell ⟨g,0,none⟩ a0).setCell ⟨g,1,none⟩ a1).setCell ⟨g,2,none⟩ a2).setCell ⟨g,3,none⟩ a3).setCell ⟨g,4,none⟩ a4).setCell ⟨g,5,none⟩ a5).setCell ⟨g,6,none⟩ a6).setCell ⟨g,7,none⟩ a7).setCell ⟨g,8,none⟩ a8).heap[g]?=some (.cells #[a0,a1,a2,a3,a4,a5,a6,a7,a8] t (0,0)) :=
 (blk_put (cs':=#[a0,a1,a2,a3,a4,a5,a6,a7,a8]) (blk_put (cs':=#[a0,a1,a2,a3,a4,a5,a6,a7,b8]) (blk_put (cs':=#[a0,a1,a2,a3,a4,a5,a6,b7,b8]) (blk_put (cs':=#[a0,a1,a2,a3,a4,a5,b6,b7,b8]) (blk_put (cs':=#[a0,a1,a2,a3,a4,b5,b6,b7,b8]) (blk_put (cs':=#[a0,a1,a2,a3,b4,b5,b6,b7,b8]) (blk_put (cs':=#[a0,a1,a2,b3,b4,b5,b6,b7,b8]) (blk_put (cs':=#[a0,a1,b2,b3,b4,b5,b6,b7,b8]) (blk_put (cs':=#[a0,b1,b2,b3,b4,b5,b6,b7,b8]) h 0 a0 rfl) 1 a1 rfl) 2 a2 rfl) 3 a3 rfl) 4 a4 rfl) 5 a5 rfl) 6 a6 rfl) 7 a7 rfl) 8 a8 rfl)
theorem below9 {B:Nat} {w W:World} {g:Nat} (h:Below B w W) (hB:B≤g) (a0 a1 a2 a3 a4 a5 a6 a7 a8:Value):Below B w (((((((((W.setCell ⟨g,0,none⟩ a0).setCell ⟨g,1,none⟩ a1).setCell ⟨g,2,none⟩ a2).setCell ⟨g,3,none⟩ a3).setCell ⟨g,4,none⟩ a4).setCell ⟨g,5,none⟩ a5).setCell ⟨g,6,none⟩ a6).setCell ⟨g,7,none⟩ a7).setCell ⟨g,8,none⟩ a8) :=
 (below_at (g:=g) (j:=8) (v:=a8) (below_at (g:=g) (j:=7) (v:=a7) (below_at (g:=g) (j:=6) (v:=a6) (below_at (g:=g) (j:=5) (v:=a5) (below_at (g:=g) (j:=4) (v:=a4) (below_at (g:=g) (j:=3) (v:=a3) (below_at (g:=g) (j:=2) (v:=a2) (below_at (g:=g) (j:=1) (v:=a1) (below_at (g:=g) (j:=0) (v:=a0) h hB) hB) hB) hB) hB) hB) hB) hB) hB)
theorem far4 {W:World} {g k t:Nat} {cs:Array Value} (h:W.heap[k]?=some (.cells cs t (0,0))) (hne:k≠g) (a0 a1 a2 a3:Value):((((W.setCell ⟨g,0,none⟩ a0).setCell ⟨g,1,none⟩ a1).setCell ⟨g,2,none⟩ a2).setCell ⟨g,3,none⟩ a3).heap[k]?=some (.cells cs t (0,0)) :=
 (blk_far (p:=⟨g,3,none⟩) (blk_far (p:=⟨g,2,none⟩) (blk_far (p:=⟨g,1,none⟩) (blk_far (p:=⟨g,0,none⟩) h hne a0) hne a1) hne a2) hne a3)
theorem keep4 {W:World} {g:Nat} (k:Nat) (hne:k≠g) (a0 a1 a2 a3:Value):((((W.setCell ⟨g,0,none⟩ a0).setCell ⟨g,1,none⟩ a1).setCell ⟨g,2,none⟩ a2).setCell ⟨g,3,none⟩ a3).heap[k]?=W.heap[k]?:=setCells_far [a0,a1,a2,a3] 0 k hne
theorem putr4 {W:World} {g t:Nat} {b0 b1 b2 b3:Value} (h:W.heap[g]?=some (.cells #[b0,b1,b2,b3] t (0,0))) (a0 a1 a2 a3:Value):((((W.setCell ⟨g,0,none⟩ a0).setCell ⟨g,1,none⟩ a1).setCell ⟨g,2,none⟩ a2).setCell ⟨g,3,none⟩ a3).heap[g]?=some (.cells #[a0,a1,a2,a3] t (0,0)) :=
 (blk_put (cs':=#[a0,a1,a2,a3]) (blk_put (cs':=#[a0,a1,a2,b3]) (blk_put (cs':=#[a0,a1,b2,b3]) (blk_put (cs':=#[a0,b1,b2,b3]) h 0 a0 rfl) 1 a1 rfl) 2 a2 rfl) 3 a3 rfl)
theorem below4 {B:Nat} {w W:World} {g:Nat} (h:Below B w W) (hB:B≤g) (a0 a1 a2 a3:Value):Below B w ((((W.setCell ⟨g,0,none⟩ a0).setCell ⟨g,1,none⟩ a1).setCell ⟨g,2,none⟩ a2).setCell ⟨g,3,none⟩ a3) :=
 (below_at (g:=g) (j:=3) (v:=a3) (below_at (g:=g) (j:=2) (v:=a2) (below_at (g:=g) (j:=1) (v:=a1) (below_at (g:=g) (j:=0) (v:=a0) h hB) hB) hB) hB)
theorem ite_max (x y:Int):(if x < y then y else x)=max x y:=by omega
theorem ite_min (x y:Int):(if y < x then y else x)=min x y:=by omega
theorem max2_mx (k k':IntKind) (x y:Int):Builtin.max2 (.int k x) (.int k' y)=pure (.int k (max x y)):=by rw [max2_int,ite_max]
theorem min2_mn (k k':IntKind) (x y:Int):Builtin.min2 (.int k x) (.int k' y)=pure (.int k (min x y)):=by rw [min2_int,ite_min]
theorem size1 (W:World) (p:Addr) (v:Value):(W.setCell p v).heap.size=W.heap.size:=by simp [World.setCell]
theorem keep1 {W:World} {p:Addr} (k:Nat) (hne:k≠p.block) (v:Value):(W.setCell p v).heap[k]?=W.heap[k]?:=Below.heap_setCell W p v k hne
theorem Own3.with_log {w W:World} {base:Nat} {Q:Nat→Prop} {x:Nod} {v6 v7 v8 v:Value} {r:List ByteArray} (h:Own3 w base Q x v6 v7 v8) (hb:Below w.heap.size w W) (hB:base≤w.heap.size) (hr:Kd.R Kd.string 9 W w.heap.size (fun _=>True) v r) (hq:∀ k,w.heap.size≤k→Q k):Own3 W base Q { x with log:=r } v v7 v8:=by
 obtain ⟨P6,P7,P8,h6,h7,h8,a6,a7,hl⟩:=h
 refine ⟨_,P7,P8,Kd.R_lower (Kd.R_bound hr) hB,Kd.R_below h7 hb,Kd.V_below h8 hb,fun k hk=>⟨fun q=>?_,fun q=>?_⟩,a7,?_⟩
 ·have:=(hl k (.inr (.inl q))).2;have:=hk.2.1;omega
 ·have:=(hl k (.inr (.inr q))).2;have:=hk.2.1;omega
 ·rintro k (hk | hk | hk)
  ·exact ⟨hq k hk.2.1,hk.2.2.1⟩
  ·exact ⟨(hl k (.inr (.inl hk))).1,Nat.lt_of_lt_of_le (hl k (.inr (.inl hk))).2 hb.size⟩
  ·exact ⟨(hl k (.inr (.inr hk))).1,Nat.lt_of_lt_of_le (hl k (.inr (.inr hk))).2 hb.size⟩
theorem c28_one {W:World} {g:Nat} {m:S28} {D:Option Addr} {d t:Nat} (h:W.heap[g]?=some (.cells #[.int .i64 m.f0,.int .i64 m.f1,.int .i64 m.f2,.int .i64 m.f3,.int .i64 m.f4,.int .i64 m.f5,.int .i64 m.f6,.slice D m.f7.length d] t (0,0))) (l:m.f7.length≤d) (hc:Kd.C Kd.string W D m.f7.length m.f7):Kd.C k28 W (some ⟨g,0,none⟩) 1 [m]:=by
 refine ⟨rfl,by omega,fun _=>⟨⟨g,0,none⟩,rfl,fun j p hj=>?_⟩⟩
 cases j with
 | succ j=>simp at hj
 | zero =>
  obtain rfl:m=p:=by simpa using hj
  obtain ⟨a0,a1,a2,a3,a4,a5,a6,a7⟩:=cells8 h
  refine ⟨_,rfl,k28_mk W m l hc,fun i u hi=>?_⟩
  match i,hi with
  | 0,hi=>cases hi;exact a0
  | 1,hi=>cases hi;exact a1
  | 2,hi=>cases hi;exact a2
  | 3,hi=>cases hi;exact a3
  | 4,hi=>cases hi;exact a4
  | 5,hi=>cases hi;exact a5
  | 6,hi=>cases hi;exact a6
  | 7,hi=>cases hi;exact a7
  | i+8,hi=>simp at hi
theorem row9_one {W:World} {g t base:Nat} {m:S28} {v7:Value} {Q P:Nat→Prop} (h:W.heap[g]?=some (.cells #[.int .i64 m.f0,.int .i64 m.f1,.int .i64 m.f2,.int .i64 m.f3,.int .i64 m.f4,.int .i64 m.f5,.int .i64 m.f6,v7] t (0,0))) (hg:Q g) (h7:Kd.R Kd.string 9 W base P v7 m.f7) (hP:∀ k,base≤k→k < W.heap.size→Q k):Row9 W Q (.slice (some ⟨g,0,none⟩) 1 1) [m]:=by
 obtain ⟨D,d,rfl⟩:=Kd.R_slice h7
 refine ⟨_,_,rfl,Nat.le_refl _,fun W' hm=>?_⟩
 have g7:=Kd.R_reads' (Kd.R_step (Kd.R_bound h7) (w1:=W') (fun k hk hl=>hm k (hP k hk.2.1 hl) hl))
 exact c28_one ((hm g hg (blk_lt h)).trans h) g7.2.1 g7.2.2
theorem alloc3_size (w:World) (o1 o2 o3:Obj):(((w.alloc o1).alloc o2).alloc o3).heap.size=w.heap.size+1+1+1:=by rw [World.alloc,Array.size_push,World.alloc,Array.size_push,World.alloc,Array.size_push]
theorem alloc3_new (w:World) (o1 o2 o3:Obj):(((w.alloc o1).alloc o2).alloc o3).heap[w.heap.size+1+1]?=some o3:=by
 have h:=alloc2_new (w.alloc o1) o2 o3
 rwa [show (w.alloc o1).heap.size=w.heap.size+1 from by rw [World.alloc,Array.size_push]] at h
structure Said (W E:World) (g:Nat) (row:Array Value) (o:Obj):Prop where
 row:E.heap[g]?=some (.cells row 26 (0,0))
 msg:E.heap[W.heap.size]?=some o
 rest:∀ k,k≠g→k < W.heap.size→E.heap[k]?=W.heap[k]?
 size:W.heap.size≤E.heap.size
 below:∀ (B:Nat) (w:World),Below B w W→B≤g→Below B w E
theorem said_a {W:World} {g:Nat} {b0 b1 b2 b3 b4 b5 b6 b7 b8:Value} (h:W.heap[g]?=some (.cells #[b0,b1,b2,b3,b4,b5,b6,b7,b8] 26 (0,0))) (a0 a1 a2 a3 a4 a5 a6 a7 a8:Value) (t:Nat) (cs:Array Value):Said W ((((((((((W.alloc (.cells cs t)).setCell ⟨g,0,none⟩ a0).setCell ⟨g,1,none⟩ a1).setCell ⟨g,2,none⟩ a2).setCell ⟨g,3,none⟩ a3).setCell ⟨g,4,none⟩ a4).setCell ⟨g,5,none⟩ a5).setCell ⟨g,6,none⟩ a6).setCell ⟨g,7,none⟩ a7).setCell ⟨g,8,none⟩ a8) g #[a0,a1,a2,a3,a4,a5,a6,a7,a8] (.cells cs t):=by
 have hlt:=blk_lt h
 refine ⟨putr9 (blk_alloc h _) a0 a1 a2 a3 a4 a5 a6 a7 a8,?_,fun k hk hl=>?_,?_,fun B w hb hB=>below9 (below_then hb (by omega) (below_alloc (Below.refl W.heap.size W) _)) hB a0 a1 a2 a3 a4 a5 a6 a7 a8⟩
 ·rw [keep9 _ (by omega)];exact x_alloc_new W _
 ·rw [keep9 _ hk];exact (below_alloc (Below.refl W.heap.size W) _).block k hl
 ·rw [size9];exact (below_alloc (Below.refl W.heap.size W) _).size
theorem said_b {W:World} {g:Nat} {b0 b1 b2 b3 b4 b5 b6 b7 b8:Value} (h:W.heap[g]?=some (.cells #[b0,b1,b2,b3,b4,b5,b6,b7,b8] 26 (0,0))) (a0 a1 a2 a3 a4 a5 a6 a7 a8:Value) (t:Nat) (cs:Array Value):Said W ((((((((((W.setCell ⟨g,0,none⟩ a0).setCell ⟨g,1,none⟩ a1).setCell ⟨g,2,none⟩ a2).setCell ⟨g,3,none⟩ a3).setCell ⟨g,4,none⟩ a4).setCell ⟨g,5,none⟩ a5).setCell ⟨g,6,none⟩ a6).setCell ⟨g,7,none⟩ a7).setCell ⟨g,8,none⟩ a8).alloc (.cells cs t)) g #[a0,a1,a2,a3,a4,a5,a6,a7,a8] (.cells cs t):=by
 have hs:=size9 (W:=W) (g:=g) a0 a1 a2 a3 a4 a5 a6 a7 a8
 have hk9:=fun k hk=>keep9 (W:=W) (g:=g) k hk a0 a1 a2 a3 a4 a5 a6 a7 a8
 have hp9:=putr9 h a0 a1 a2 a3 a4 a5 a6 a7 a8
 have hb9:=fun (B:Nat) (w:World) (hb:Below B w W) (hB:B≤g)=>below9 hb hB a0 a1 a2 a3 a4 a5 a6 a7 a8
 generalize (((((((((W.setCell ⟨g,0,none⟩ a0).setCell ⟨g,1,none⟩ a1).setCell ⟨g,2,none⟩ a2).setCell ⟨g,3,none⟩ a3).setCell ⟨g,4,none⟩ a4).setCell ⟨g,5,none⟩ a5).setCell ⟨g,6,none⟩ a6).setCell ⟨g,7,none⟩ a7).setCell ⟨g,8,none⟩ a8)=V at hs hk9 hp9 hb9 ⊢
 have hV:=below_alloc (Below.refl V.heap.size V) (.cells cs t)
 refine ⟨blk_alloc hp9 _,?_,fun k hk hl=>?_,by have:=hV.size;omega,fun B w hb hB=>below_then (hb9 B w hb hB) (by have:=blk_lt h;omega) hV⟩
 ·have:=x_alloc_new V (.cells cs t)
  rwa [hs] at this
 ·exact (hV.block k (by omega)).trans (hk9 k hk)
theorem Row9.mono {w:World} {Q Q':Nat→Prop} {v:Value} {l:List S28} (h:Row9 w Q v l) (hm:∀ k,Q k→k < w.heap.size→Q' k):Row9 w Q' v l:=by
 obtain ⟨A,c,rfl,e,k⟩:=h
 exact ⟨A,c,rfl,e,fun W hw=>k W (fun j hj hl=>hw j (hm j hj hl) hl)⟩
theorem Own3.with_votes {w W:World} {base:Nat} {Q:Nat→Prop} {x:Nod} {v6 v7 v8 v:Value} {r:List S63} (h:Own3 w base Q x v6 v7 v8) (hb:Below w.heap.size w W) (hr:Kd.S k63 63 W w.heap.size (fun _=>True) v r) (hq:∀ k,w.heap.size≤k→Q k):Own3 W base Q { x with votes:=r } v6 v7 v:=by
 obtain ⟨P6,P7,P8,h6,h7,h8,a6,a7,hl⟩:=h
 refine ⟨P6,P7,_,Kd.R_below h6 hb,Kd.R_below h7 hb,Kd.S_V (Kd.S_bound hr),fun k hk=>⟨(a6 k hk).1,fun q=>?_⟩,fun k hk q=>?_,?_⟩
 ·have:=(hl k (.inl hk)).2;have:=q.2.1;omega
 ·have:=(hl k (.inr (.inl hk))).2;have:=q.2.1;omega
 ·rintro k (hk | hk | hk)
  ·exact ⟨(hl k (.inl hk)).1,Nat.lt_of_lt_of_le (hl k (.inl hk)).2 hb.size⟩
  ·exact ⟨(hl k (.inr (.inl hk))).1,Nat.lt_of_lt_of_le (hl k (.inr (.inl hk))).2 hb.size⟩
  ·exact ⟨hq k hk.2.1,hk.2.2.1⟩
section
abbrev mg (m:S28) (A:Option Addr) (c:Nat):Array Value:=#[.int .i64 m.f0,.int .i64 m.f1,.int .i64 m.f2,.int .i64 m.f3,.int .i64 m.f4,.int .i64 m.f5,.int .i64 m.f6,.slice A m.f7.length c]
abbrev row9 (x:Nod) (v6 v7 v8:Value):Array Value:=#[.int .i64 x.id,.int .i64 x.n,.int .i64 x.view,.int .i64 x.last,.bool x.works,.int .i64 x.commit,v6,v7,v8]
abbrev ag (x:Nod) (v6 v7 v8:Value):Value:=.agg (row9 x v6 v7 v8)
abbrev zer9:Array Value:=#[.int .i64 0,.int .i64 0,.int .i64 0,.int .i64 0,.bool false,.int .i64 0,.slice none 0 0,.slice none 0 0,.slice none 0 0]
abbrev Qn (Q:Nat→Prop) (w:World) (n:Nat):Nat→Prop:=fun k=>(Q k∧k < w.heap.size)∨n≤k
structure Fr (w0 w W:World) (Q:Nat→Prop) (gx gm gz n tm:Nat) (cx cm cz:Array Value) (y:Nod) (v6 v7 v8:Value):Prop where
 ax:w.heap.size≤gx∧w.heap.size≤gm∧w.heap.size≤gz∧gx < n∧gm < n∧gz < n∧gx≠gm∧gx≠gz∧w0.heap.size≤w.heap.size
 x:W.heap[gx]?=some (.cells cx 26 (0,0))
 m:W.heap[gm]?=some (.cells cm tm (0,0))
 z:W.heap[gz]?=some (.cells cz 26 (0,0))
 b:Below w0.heap.size w0 W
 k:∀ k,k < w.heap.size→¬ Q k→W.heap[k]?=w.heap[k]?
 s:n≤W.heap.size
 o:Own3 W w0.heap.size (Qn Q w n) y v6 v7 v8
section
variable {w0 w W W1:World} {Q:Nat→Prop} {gx gm gz n tm:Nat} {cx cm cz:Array Value} {y y1:Nod} {v6 v7 v8 u6 u7 u8:Value} {a0 a1 a2 a3 a4 a5 a6 a7 a8 b0 b1 b2 b3 b4 b5 b6 b7 b8:Value}
theorem Fr.step (h:Fr w0 w W Q gx gm gz n tm cx cm cz y v6 v7 v8) (hb:Below w0.heap.size w0 W1) (hs:W.heap.size≤W1.heap.size) (hk:∀ k,k < W.heap.size→W1.heap[k]?=W.heap[k]?):Fr w0 w W1 Q gx gm gz n tm cx cm cz y v6 v7 v8 :=
 ⟨h.ax,(hk _ (blk_lt h.x)).trans h.x,(hk _ (blk_lt h.m)).trans h.m,(hk _ (blk_lt h.z)).trans h.z,hb,fun k h1 h2=>(hk k (by have:=h.s;have:=h.ax;omega)).trans (h.k k h1 h2),Nat.le_trans h.s hs,h.o.step hs (fun k _ hl=>hk k hl)⟩
theorem Fr.call (h:Fr w0 w W Q gx gm gz n tm cx cm cz y v6 v7 v8) (hb:Below W.heap.size W W1):Fr w0 w W1 Q gx gm gz n tm cx cm cz y v6 v7 v8:=h.step (below_then h.b h.b.size hb) hb.size (fun k hk=>hb.block k hk)
theorem Fr.drew (h:Fr w0 w W Q gx gm gz n tm cx cm cz y v6 v7 v8):Fr w0 w W.drew Q gx gm gz n tm cx cm cz y v6 v7 v8:=h.step (below_drew_any h.b) (Nat.le_refl _) (fun _ _=>rfl)
theorem Fr.callK (h:Fr w0 w W Q gx gm gz n tm cx cm cz y v6 v7 v8) (hO:Own3 W1 w0.heap.size (fun k=>Qn Q w n k∨W.heap.size≤k) y1 u6 u7 u8) (hb:Below w0.heap.size w0 W1) (hs:W.heap.size≤W1.heap.size) (hk:∀ k,k < W.heap.size→¬ Qn Q w n k→W1.heap[k]?=W.heap[k]?):Fr w0 w W1 Q gx gm gz n tm cx cm cz y1 u6 u7 u8:=by
 have ha:=h.ax
 have hn:=h.s
 have hq:∀ k,w.heap.size≤k→k < n→¬ Qn Q w n k:=fun k h1 h2 h3=>by rcases h3 with h3 | h3<;>omega
 exact ⟨ha,(hk _ (blk_lt h.x) (hq _ ha.1 ha.2.2.2.1)).trans h.x,(hk _ (blk_lt h.m) (hq _ ha.2.1 ha.2.2.2.2.1)).trans h.m,(hk _ (blk_lt h.z) (hq _ ha.2.2.1 ha.2.2.2.2.2.1)).trans h.z,hb,fun k h1 h2=>(hk k (by omega) (fun h3=>h3.elim (fun h3=>h2 h3.1) (fun h3=>by omega))).trans (h.k k h1 h2),Nat.le_trans hn hs,hO.mono (fun k h _=>h.elim id (fun h=>.inr (by omega)))⟩
theorem Fr.put9 (h:Fr w0 w W Q gx gm gz n tm #[b0,b1,b2,b3,b4,b5,b6,b7,b8] cm cz y v6 v7 v8) (a0 a1 a2 a3 a4 a5 a6 a7 a8:Value):Fr w0 w (((((((((W.setCell ⟨gx,0,none⟩ a0).setCell ⟨gx,1,none⟩ a1).setCell ⟨gx,2,none⟩ a2).setCell ⟨gx,3,none⟩ a3).setCell ⟨gx,4,none⟩ a4).setCell ⟨gx,5,none⟩ a5).setCell ⟨gx,6,none⟩ a6).setCell ⟨gx,7,none⟩ a7).setCell ⟨gx,8,none⟩ a8) Q gx gm gz n tm #[a0,a1,a2,a3,a4,a5,a6,a7,a8] cm cz y v6 v7 v8:=by
 have ha:=h.ax
 exact ⟨ha,putr9 h.x a0 a1 a2 a3 a4 a5 a6 a7 a8,far9 h.m (Ne.symm ha.2.2.2.2.2.2.1) a0 a1 a2 a3 a4 a5 a6 a7 a8,far9 h.z (Ne.symm ha.2.2.2.2.2.2.2.1) a0 a1 a2 a3 a4 a5 a6 a7 a8,below9 h.b (by omega) a0 a1 a2 a3 a4 a5 a6 a7 a8,fun k h1 h2=>(keep9 k (by omega) a0 a1 a2 a3 a4 a5 a6 a7 a8).trans (h.k k h1 h2),Nat.le_trans h.s (Nat.le_of_eq (size9 a0 a1 a2 a3 a4 a5 a6 a7 a8).symm),h.o.step (Nat.le_of_eq (size9 a0 a1 a2 a3 a4 a5 a6 a7 a8).symm) (fun k hk _=>keep9 k (by rcases hk with hk | hk<;>omega) a0 a1 a2 a3 a4 a5 a6 a7 a8)⟩
theorem Fr.put1 (h:Fr w0 w W Q gx gm gz n tm cx cm cz y v6 v7 v8) (j:Nat) (u:Value) {cx':Array Value} (e:cx.setIfInBounds j u=cx'):Fr w0 w (W.setCell ⟨gx,j,none⟩ u) Q gx gm gz n tm cx' cm cz y v6 v7 v8:=by
 have ha:=h.ax
 exact ⟨ha,blk_put h.x j u e,blk_far (p:=⟨gx,j,none⟩) h.m (Ne.symm ha.2.2.2.2.2.2.1) u,blk_far (p:=⟨gx,j,none⟩) h.z (Ne.symm ha.2.2.2.2.2.2.2.1) u,below_at h.b (by omega),fun k h1 h2=>(keep1 (p:=⟨gx,j,none⟩) k (by show k≠gx;omega) u).trans (h.k k h1 h2),Nat.le_trans h.s (Nat.le_of_eq (size1 ..).symm),h.o.step (Nat.le_of_eq (size1 ..).symm) (fun k hk _=>keep1 (p:=⟨gx,j,none⟩) k (by show k≠gx;rcases hk with hk | hk<;>omega) u)⟩
theorem Fr.node (h:Fr w0 w W Q gx gm gz n tm cx cm cz y v6 v7 v8) (e6:y1.log=y.log) (e7:y1.acks=y.acks) (e8:y1.votes=y.votes):Fr w0 w W Q gx gm gz n tm cx cm cz y1 v6 v7 v8:=by
 refine ⟨h.ax,h.x,h.m,h.z,h.b,h.k,h.s,?_⟩
 have ho:=h.o
 unfold Own3 at ho ⊢
 rw [e6,e7,e8];exact ho
structure Fin (w0 w E:World) (Q:Nat→Prop) (gz:Nat) (row:Array Value) (y:Nod) (v6 v7 v8:Value):Prop where
 row:E.heap[gz]?=some (.cells row 26 (0,0))
 own:Own3 E w0.heap.size (fun k=>Q k∨w.heap.size≤k) y v6 v7 v8
 below:Below w0.heap.size w0 E
 size:w.heap.size≤E.heap.size
 keep:∀ k,k < w.heap.size→¬ Q k→E.heap[k]?=w.heap[k]?
theorem Fr.fin (h:Fr w0 w W Q gx gm gz n tm cx cm cz y v6 v7 v8) {E:World} {row:Array Value} (hr:E.heap[gz]?=some (.cells row 26 (0,0))) (hb:∀ (B:Nat) (w:World),Below B w W→B≤gz→Below B w E) (hs:W.heap.size≤E.heap.size) (hk:∀ k,k≠gz→k < W.heap.size→E.heap[k]?=W.heap[k]?):Fin w0 w E Q gz row y v6 v7 v8:=by
 have ha:=h.ax
 have hn:=h.s
 exact ⟨hr,(h.o.step hs (fun k h1 hl=>hk k (by rcases h1 with h1 | h1<;>omega) hl)).mono (fun k h _=>h.elim (fun h=>.inl h.1) (fun h=>.inr (by omega))),hb _ _ h.b (by omega),by omega,fun k h1 h2=>(hk k (by omega) (by omega)).trans (h.k k h1 h2)⟩
theorem Fr.ret (h:Fr w0 w W Q gx gm gz n tm cx cm #[b0,b1,b2,b3,b4,b5,b6,b7,b8] y v6 v7 v8) (a0 a1 a2 a3 a4 a5 a6 a7 a8:Value):Fin w0 w (((((((((W.setCell ⟨gz,0,none⟩ a0).setCell ⟨gz,1,none⟩ a1).setCell ⟨gz,2,none⟩ a2).setCell ⟨gz,3,none⟩ a3).setCell ⟨gz,4,none⟩ a4).setCell ⟨gz,5,none⟩ a5).setCell ⟨gz,6,none⟩ a6).setCell ⟨gz,7,none⟩ a7).setCell ⟨gz,8,none⟩ a8) Q gz #[a0,a1,a2,a3,a4,a5,a6,a7,a8] y v6 v7 v8 :=
 h.fin (putr9 h.z a0 a1 a2 a3 a4 a5 a6 a7 a8) (fun B w hb hB=>below9 hb hB a0 a1 a2 a3 a4 a5 a6 a7 a8) (Nat.le_of_eq (size9 a0 a1 a2 a3 a4 a5 a6 a7 a8).symm) (fun k hk _=>keep9 k hk a0 a1 a2 a3 a4 a5 a6 a7 a8)
theorem Fr.said (h:Fr w0 w W Q gx gm gz n tm cx cm cz y v6 v7 v8) {E:World} {row:Array Value} {o:Obj} (hE:Said W E gz row o):Fin w0 w E Q gz row y v6 v7 v8:=h.fin hE.row hE.below hE.size hE.rest
theorem Fr.kept (h:Fr w0 w W Q gx gm gz n tm cx cm cz y v6 v7 v8) {l:List ByteArray} {A:Option Addr} (hM:∀ W:World,w.heap.size≤W.heap.size→(∀ k,k < w.heap.size→¬ Q k→W.heap[k]?=w.heap[k]?)→Kd.C Kd.string W A l.length l):Kd.C Kd.string W A l.length l:=hM W (by have:=h.ax;have:=h.s;omega) h.k
theorem Fr.slices (h:Fr w0 w W Q gx gm gz n tm cx cm cz y v6 v7 v8):∃ A6 c6 A7 c7 A8 c8,v6=.slice A6 y.log.length c6∧v7=.slice A7 y.acks.length c7∧v8=.slice A8 y.votes.length c8:=by
 obtain ⟨A6,c6,A7,c7,A8,c8,h6,h7,h8,-⟩:=h.o.reads
 exact ⟨A6,c6,A7,c7,A8,c8,h6,h7,h8⟩
theorem Fr.row9 (h:Fr w0 w W Q gx gm gz n tm cx cm cz y v6 v7 v8) {W2:World} {u:Value} {l:List S28} (h9:Row9 W2 (fun k=>Qn Q w n k∨W.heap.size≤k) u l):Row9 W2 (Qn Q w n) u l:=h9.mono (fun k hk _=>hk.elim id (fun hk=>.inr (Nat.le_trans h.s hk)))
end
theorem fr_three {w0 w:World} {Q:Nat→Prop} {y:Nod} {v6 v7 v8:Value} (hB:Below w0.heap.size w0 w) (h:Own3 w w0.heap.size Q y v6 v7 v8) (cx cm cz:Array Value):Fr w0 w (((w.alloc (.cells cx 26)).alloc (.cells cm 28)).alloc (.cells cz 26)) Q w.heap.size (w.heap.size+1) (w.heap.size+1+1) (w.heap.size+1+1+1) 28 cx cm cz y v6 v7 v8:=by
 have hb:=below_alloc (below_alloc (below_alloc (Below.refl w.heap.size w) (.cells cx 26)) (.cells cm 28)) (.cells cz 26)
 exact ⟨⟨Nat.le_refl _,by omega,by omega,by omega,by omega,by omega,by omega,by omega,hB.size⟩,blk_alloc (blk_alloc (x_alloc_new w _) _) _,blk_alloc (alloc2_new w _ _) _,alloc3_new w _ _ _,below_then hB hB.size hb,fun k h1 _=>hb.block k h1,Nat.le_of_eq (alloc3_size w _ _ _).symm,(h.mono (Q':=Qn Q w (w.heap.size+1+1+1)) (fun k hk hl=>.inl ⟨hk,hl⟩)).below hb⟩
theorem fr_two {w0 w:World} {Q:Nat→Prop} {y:Nod} {v6 v7 v8:Value} (hB:Below w0.heap.size w0 w) (h:Own3 w w0.heap.size Q y v6 v7 v8) (cx cz:Array Value):Fr w0 w ((w.alloc (.cells cx 26)).alloc (.cells cz 26)) Q w.heap.size (w.heap.size+1) (w.heap.size+1) (w.heap.size+1+1) 26 cx cz cz y v6 v7 v8:=by
 have hb:=below_alloc (below_alloc (Below.refl w.heap.size w) (.cells cx 26)) (.cells cz 26)
 have hs:((w.alloc (.cells cx 26)).alloc (.cells cz 26)).heap.size=w.heap.size+1+1:=by rw [World.alloc,Array.size_push,World.alloc,Array.size_push]
 exact ⟨⟨Nat.le_refl _,by omega,by omega,by omega,by omega,by omega,by omega,by omega,hB.size⟩,blk_alloc (x_alloc_new w _) _,alloc2_new w _ _,alloc2_new w _ _,below_then hB hB.size hb,fun k h1 _=>hb.block k h1,Nat.le_of_eq hs.symm,(h.mono (Q':=Qn Q w (w.heap.size+1+1)) (fun k hk hl=>.inl ⟨hk,hl⟩)).below hb⟩
end
end Go.Proofs.YtfpfpckocemmdaaGreat.P
