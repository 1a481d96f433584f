/- Part 39 of the walk. -/
import Derived.Test.YtfpfpckocemmdaaGreatCDoes38
set_option linter.unusedVariables false
set_option linter.unusedSimpArgs false
set_option maxHeartbeats 8000000
set_option maxRecDepth 100000
namespace Go.Proofs.YtfpfpckocemmdaaGreat.P
open Go.RowKit Go.Proofs.YtfpfpckocemmdaaGreatW.PrintWords Go.Proofs.YtfpfpckocemmdaaGreatW.PrintLast Go.Proofs.YtfpfpckocemmdaaGreatW.PrintMore
theorem rcommit_f (l:List Int) (h:l.length≤1000):Ev (fun k=>sextonref22_Commit.f k l) (commitOf l):=by
 obtain ⟨r,h1,k0,h2⟩:=SpecT.commit_both l h
 rw [commit_of l h] at h1
 obtain rfl:=Option.some.inj h1
 exact ⟨k0,h2⟩
theorem wf_of {v:Int} (h0:0≤v) (h1:v≤1000):(Lit.int .i64 v).wf=true:=by
 have e:v=wrap64 v:=by unfold wrap64;omega
 rw [e];exact wrap64_wf _
theorem renough_f (l:List S63) (n:Int) (hn:1≤n) (hn2:n≤1000) (h:l.length≤1000) (hw:∀ v,v∈l→0≤v.f0∧v.f0≤1000):Ev (fun k=>sextonref22_Enough.f k l n) (enoughOf l n):=by
 obtain ⟨r,h1,k0,h2⟩:=SpecT.enough_both l h n (by omega) (fun v hv=>wf_of (hw v hv).1 (hw v hv).2)
 rw [enough_of l n hn hn2 h hw] at h1
 obtain rfl:=Option.some.inj h1
 exact ⟨k0,h2⟩
theorem rprepare_f (a b c d:Int) (l:List ByteArray) (hl:l.length≤1000):sextonref23_Prepare.f a b c d l=some (1,a,b,c,0,d,0,l):=by
 unfold sextonref23_Prepare.f
 rw [SpecT.ownTexts_of l (by omega)];rfl
theorem counts_same (x:Nod):x.counts.id=x.id∧x.counts.n=x.n∧x.counts.view=x.view∧x.counts.last=x.last∧x.counts.works=x.works∧x.counts.log=x.log∧x.counts.votes=x.votes∧x.counts.told=x.told:=by
 unfold Nod.counts Nod.count
 split<;>exact ⟨rfl,rfl,rfl,rfl,rfl,rfl,rfl,rfl⟩
theorem best_small {x:Nod} (h:Good x) (hne:x.votes≠[]):(bestOf x.votes).f3.length≤1000:=(h.each _ (bestOf_mem _ hne)).2.2
theorem rise_clear_good {x:Nod} (h:Good x) (hne:x.votes≠[]):Good x.rise.clear :=
 ⟨h.n1,h.n2,h.id0,h.id1,h.view,best_small h hne,by simp [Nod.clear,Nod.rise],by simp [Nod.clear],(fun v hv=>by simp [Nod.clear] at hv),h.told⟩
theorem rin_f (a m:Int):sextonref23_in.f a m=some (withinB a m):=by
 unfold sextonref23_in.f withinB
 by_cases h:a≥0
 ·rw [if_pos h,decide_eq_true (show 0≤a from h)];rfl
 ·rw [if_neg h,decide_eq_false (show ¬ 0≤a by omega)];rfl
theorem rsize_f (n:Int):sextonref24_size.f n=some (sizeB n):=size_of n
def shortB (l:List ByteArray):Bool:=decide ((l.length:Int)≤60) && !l.any longB
theorem rlog_go (l:List ByteArray) (hl:l.length≤1000) (d:Nat):∀ (i k:Nat),i+d=l.length→d < k→sextonref23_Log.l0 k l (i:Int)=some (decide ((l.length:Int)≤60) && !(l.drop i).any longB):=by
 induction d with
 | zero =>
  intro i k hi hk
  obtain ⟨k,rfl⟩:∃ m,k=m+1:=⟨k - 1,by omega⟩
  rw [sextonref23_Log.l0,if_neg (by omega),List.drop_eq_nil_of_le (by omega)]
  simp
 | succ d ih =>
  intro i k hi hk
  obtain ⟨k,rfl⟩:∃ m,k=m+1:=⟨k - 1,by omega⟩
  have hw:wrap64 ((i:Int)+1)=((i+1:Nat):Int):=by unfold wrap64;omega
  rw [sextonref23_Log.l0,if_pos (by omega),if_pos (by omega),SpecT.rdS_nat l i (by omega),hw,ih (i+1) k (by omega) (by omega),List.drop_eq_getElem_cons (show i < l.length by omega),List.any_cons]
  by_cases h:((l[i]'(by omega)).size:Int) > 300
  ·rw [if_pos h,show longB (l[i]'(by omega))=true from decide_eq_true h];simp
  ·rw [if_neg h,show longB (l[i]'(by omega))=false from decide_eq_false h];simp
theorem rlog_f (l:List ByteArray) (hl:l.length≤1000) (k:Nat) (hk:1001≤k):sextonref23_Log.f k l=some (shortB l):=rlog_go l hl l.length 0 k (by omega) (by omega)
theorem logged_short (l:List ByteArray) (c:Int):loggedB l c=(shortB l && withinB c (l.length:Int)):=by
 unfold loggedB shortB
 cases decide ((l.length:Int)≤60)<;>cases withinB c (l.length:Int)<;>cases l.any longB<;>rfl
def seenB (l:List S63) (i:Nat):List Int:=((l.take i).map (·.f0)).reverse
theorem seenB_succ (l:List S63) (i:Nat) (hi:i < l.length):seenB l (i+1)=(l[i]).f0::seenB l i:=by
 unfold seenB
 rw [List.take_succ_eq_append_getElem hi,List.map_append,List.reverse_append];rfl
structure Few (x:Nod):Prop where
 log:x.log.length≤1000
 acks:x.acks.length≤1000
 votes:x.votes.length≤1000
 each:∀ v,v∈x.votes→v.f3.length≤1000
theorem rlogs_good {x:Nod} (h:Good x) (s:ByteArray) (hl:x.log.length≤900):Good (x.logs s):=⟨h.n1,h.n2,h.id0,h.id1,h.view,by show (x.log++[s]).length≤1000;simp;omega,h.acks,h.votes,h.each,h.told⟩
theorem counts_not (x:Nod) (h:x.works=false):x.counts=x:=by
 unfold Nod.counts Nod.count
 rw [if_neg (by unfold Nod.leads;rw [h];simp)]
section
section
variable {w W:World} {B g:Nat} {x:Nod} {v6 v7 v8 v9 v:Value}
theorem Res.set (h:Res w B x v6 v7 v8 v9) {cs:Array Value} (hg:w.heap[g]?=some (.cells cs 26 (0,0))) (j:Nat) (u:Value):Res (w.setCell ⟨g,j,none⟩ u) B x v6 v7 v8 v9:=by
 obtain ⟨P6,P7,P8,P9,h6,h7,h8,h9,a⟩:=h
 exact ⟨P6,P7,P8,P9,Kd.R_set h6 hg (by decide) j u,Kd.R_set h7 hg (by decide) j u,Kd.S_set h8 hg (by decide) j u,Kd.S_set h9 hg (by decide) j u,a⟩
theorem Res.bound (h:Res w B x v6 v7 v8 v9):∃ (P6 P7 P8 P9:Nat→Prop),Kd.R Kd.string 9 w B P6 v6 x.log∧Kd.R (Kd.int .i64) 3 w B P7 v7 x.acks∧Kd.S k63 63 w B P8 v8 x.votes∧Kd.S k28 28 w B P9 v9 x.told ∧
  (∀ k,P6 k→¬ P7 k∧¬ P8 k∧¬ P9 k)∧(∀ k,P7 k→¬ P8 k∧¬ P9 k)∧(∀ k,P8 k→¬ P9 k)∧∀ k,P6 k∨P7 k∨P8 k∨P9 k→k < w.heap.size:=by
 obtain ⟨P6,P7,P8,P9,h6,h7,h8,h9,a6,a7,a8⟩:=h
 refine ⟨_,_,_,_,Kd.R_bound h6,Kd.R_bound h7,Kd.S_bound h8,Kd.S_bound h9,fun k hk=>⟨fun h=>(a6 k hk.1).1 h.1,fun h=>(a6 k hk.1).2.1 h.1,fun h=>(a6 k hk.1).2.2 h.1⟩,fun k hk=>⟨fun h=>(a7 k hk.1).1 h.1,fun h=>(a7 k hk.1).2 h.1⟩,fun k hk h=>a8 k hk.1 h.1,?_⟩
 rintro k (hk | hk | hk | hk)<;>exact hk.2.2.1
theorem Res.with_log (h:Res w B x v6 v7 v8 v9) (hb:Below w.heap.size w W) (hB:B≤w.heap.size) {Q:Nat→Prop} {r:List ByteArray} (hr:Kd.R Kd.string 9 W w.heap.size Q v r):Res W B { x with log:=r } v v7 v8 v9:=by
 obtain ⟨P6,P7,P8,P9,h6,h7,h8,h9,a6,a7,a8,hl⟩:=h.bound
 refine ⟨_,P7,P8,P9,Kd.R_lower (Kd.R_bound hr) hB,Kd.R_below h7 hb,Kd.S_below h8 hb,Kd.S_below h9 hb,fun k hk=>⟨fun q=>?_,fun q=>?_,fun q=>?_⟩,a7,a8⟩
 ·have:=hl k (.inr (.inl q));have:=hk.2.1;omega
 ·have:=hl k (.inr (.inr (.inl q)));have:=hk.2.1;omega
 ·have:=hl k (.inr (.inr (.inr q)));have:=hk.2.1;omega
theorem Res.with_acks (h:Res w B x v6 v7 v8 v9) (hb:Below w.heap.size w W) (hB:B≤w.heap.size) {Q:Nat→Prop} {r:List Int} (hr:Kd.R (Kd.int .i64) 3 W w.heap.size Q v r):Res W B { x with acks:=r } v6 v v8 v9:=by
 obtain ⟨P6,P7,P8,P9,h6,h7,h8,h9,a6,a7,a8,hl⟩:=h.bound
 refine ⟨P6,_,P8,P9,Kd.R_below h6 hb,Kd.R_lower (Kd.R_bound hr) hB,Kd.S_below h8 hb,Kd.S_below h9 hb,fun k hk=>⟨fun q=>?_,(a6 k hk).2.1,(a6 k hk).2.2⟩,fun k hk=>⟨fun q=>?_,fun q=>?_⟩,a8⟩
 ·have:=hl k (.inl hk);have:=q.2.1;omega
 ·have:=hl k (.inr (.inr (.inl q)));have:=hk.2.1;omega
 ·have:=hl k (.inr (.inr (.inr q)));have:=hk.2.1;omega
theorem Res.with_votes (h:Res w B x v6 v7 v8 v9) (hb:Below w.heap.size w W) (hB:B≤w.heap.size) {Q:Nat→Prop} {r:List S63} (hr:Kd.S k63 63 W w.heap.size Q v r):Res W B { x with votes:=r } v6 v7 v v9:=by
 obtain ⟨P6,P7,P8,P9,h6,h7,h8,h9,a6,a7,a8,hl⟩:=h.bound
 refine ⟨P6,P7,_,P9,Kd.R_below h6 hb,Kd.R_below h7 hb,Kd.S_lower (Kd.S_bound hr) hB,Kd.S_below h9 hb,fun k hk=>⟨(a6 k hk).1,fun q=>?_,(a6 k hk).2.2⟩,fun k hk=>⟨fun q=>?_,(a7 k hk).2⟩,fun k hk q=>?_⟩
 ·have:=hl k (.inl hk);have:=q.2.1;omega
 ·have:=hl k (.inr (.inl hk));have:=q.2.1;omega
 ·have:=hl k (.inr (.inr (.inr q)));have:=hk.2.1;omega
end
theorem ret_row {W:World} {g:Nat} {b0 b1 b2 b3 b4 b5 b6 b7 b8:Value} (h:W.heap[g]?=some (.cells #[b0,b1,b2,b3,b4,b5,b6,b7,b8] 26 (0,0))) (a0 a1 a2 a3 a4 a5 a6 a7 a8:Value) :
  (((((((((W.setCell ⟨g,0,none⟩ a0).setCell ⟨g,1,none⟩ a1).setCell ⟨g,2,none⟩ a2).setCell ⟨g,3,none⟩ a3).setCell ⟨g,4,none⟩ a4).setCell ⟨g,5,none⟩ a5).setCell ⟨g,6,none⟩ a6).setCell ⟨g,7,none⟩ a7).setCell ⟨g,8,none⟩ a8).heap[g]?=some (.cells #[a0,a1,a2,a3,a4,a5,a6,a7,a8] 26 (0,0))∧(∀ (B:Nat) (x:Nod) (v6 v7 v8 v9:Value),Res W B x v6 v7 v8 v9→Res (((((((((W.setCell ⟨g,0,none⟩ a0).setCell ⟨g,1,none⟩ a1).setCell ⟨g,2,none⟩ a2).setCell ⟨g,3,none⟩ a3).setCell ⟨g,4,none⟩ a4).setCell ⟨g,5,none⟩ a5).setCell ⟨g,6,none⟩ a6).setCell ⟨g,7,none⟩ a7).setCell ⟨g,8,none⟩ a8) B x v6 v7 v8 v9)∧(∀ (B:Nat) (w:World),Below B w W→B≤g→Below B w (((((((((W.setCell ⟨g,0,none⟩ a0).setCell ⟨g,1,none⟩ a1).setCell ⟨g,2,none⟩ a2).setCell ⟨g,3,none⟩ a3).setCell ⟨g,4,none⟩ a4).setCell ⟨g,5,none⟩ a5).setCell ⟨g,6,none⟩ a6).setCell ⟨g,7,none⟩ a7).setCell ⟨g,8,none⟩ a8)):=by
 have p0:=blk_put (cs':=#[a0,b1,b2,b3,b4,b5,b6,b7,b8]) h 0 a0 rfl
 have p1:=blk_put (cs':=#[a0,a1,b2,b3,b4,b5,b6,b7,b8]) p0 1 a1 rfl
 have p2:=blk_put (cs':=#[a0,a1,a2,b3,b4,b5,b6,b7,b8]) p1 2 a2 rfl
 have p3:=blk_put (cs':=#[a0,a1,a2,a3,b4,b5,b6,b7,b8]) p2 3 a3 rfl
 have p4:=blk_put (cs':=#[a0,a1,a2,a3,a4,b5,b6,b7,b8]) p3 4 a4 rfl
 have p5:=blk_put (cs':=#[a0,a1,a2,a3,a4,a5,b6,b7,b8]) p4 5 a5 rfl
 have p6:=blk_put (cs':=#[a0,a1,a2,a3,a4,a5,a6,b7,b8]) p5 6 a6 rfl
 have p7:=blk_put (cs':=#[a0,a1,a2,a3,a4,a5,a6,a7,b8]) p6 7 a7 rfl
 have p8:=blk_put (cs':=#[a0,a1,a2,a3,a4,a5,a6,a7,a8]) p7 8 a8 rfl
 exact ⟨p8,fun B x v6 v7 v8 v9 hr=>(((((((((hr.set h 0 a0).set p0 1 a1).set p1 2 a2).set p2 3 a3).set p3 4 a4).set p4 5 a5).set p5 6 a6).set p6 7 a7).set p7 8 a8),fun B w hb hB=>(below_at (g:=g) (j:=8) (v:=a8) (below_at (g:=g) (j:=7) (v:=a7) (below_at (g:=g) (j:=6) (v:=a6) (below_at (g:=g) (j:=5) (v:=a5) (below_at (g:=g) (j:=4) (v:=a4) (below_at (g:=g) (j:=3) (v:=a3) (below_at (g:=g) (j:=2) (v:=a2) (below_at (g:=g) (j:=1) (v:=a1) (below_at (g:=g) (j:=0) (v:=a0) hb hB) hB) hB) hB) hB) hB) hB) hB) hB)⟩
end
section
def Own3 (w:World) (base:Nat) (Q:Nat→Prop) (x:Nod) (v6 v7 v8:Value):Prop:=∃ P6 P7 P8:Nat→Prop,
 Kd.R Kd.string 9 w base P6 v6 x.log∧Kd.R (Kd.int .i64) 3 w base P7 v7 x.acks∧Kd.V k63 63 w base P8 v8 x.votes ∧
 (∀ k,P6 k→¬ P7 k∧¬ P8 k)∧(∀ k,P7 k→¬ P8 k)∧∀ k,P6 k∨P7 k∨P8 k→Q k∧k < w.heap.size
def Row9 (w:World) (Q:Nat→Prop) (v:Value) (l:List S28):Prop:=∃ A c,v=.slice A l.length c∧l.length≤c∧∀ W:World,(∀ k,Q k→k < w.heap.size→W.heap[k]?=w.heap[k]?)→Kd.C k28 W A l.length l
section
variable {w W:World} {base base':Nat} {Q Q':Nat→Prop} {x:Nod} {v6 v7 v8 v9:Value} {l:List S28}
theorem Own3.step (h:Own3 w base Q x v6 v7 v8) (hs:w.heap.size≤W.heap.size) (hm:∀ k,Q k→k < w.heap.size→W.heap[k]?=w.heap[k]?):Own3 W base Q x v6 v7 v8:=by
 obtain ⟨P6,P7,P8,h6,h7,h8,a6,a7,hq⟩:=h
 exact ⟨P6,P7,P8,Kd.R_step h6 (fun k hk hl=>hm k (hq k (.inl hk)).1 hl),Kd.R_step h7 (fun k hk hl=>hm k (hq k (.inr (.inl hk))).1 hl),Kd.V_step h8 (fun k hk hl=>hm k (hq k (.inr (.inr hk))).1 hl),a6,a7,fun k hk=>⟨(hq k hk).1,Nat.lt_of_lt_of_le (hq k hk).2 hs⟩⟩
theorem Own3.mono (h:Own3 w base Q x v6 v7 v8) (hm:∀ k,Q k→k < w.heap.size→Q' k):Own3 w base Q' x v6 v7 v8:=by
 obtain ⟨P6,P7,P8,h6,h7,h8,a6,a7,hq⟩:=h
 exact ⟨P6,P7,P8,h6,h7,h8,a6,a7,fun k hk=>⟨hm k (hq k hk).1 (hq k hk).2,(hq k hk).2⟩⟩
theorem Own3.below (h:Own3 w base Q x v6 v7 v8) (hb:Below w.heap.size w W):Own3 W base Q x v6 v7 v8:=h.step hb.size (fun k _ hk=>hb.block k hk)
theorem Own3.reads (h:Own3 w base Q x v6 v7 v8):∃ A6 c6 A7 c7 A8 c8,v6=.slice A6 x.log.length c6∧v7=.slice A7 x.acks.length c7∧v8=.slice A8 x.votes.length c8∧x.log.length≤c6∧x.acks.length≤c7∧x.votes.length≤c8 ∧
  Kd.C Kd.string w A6 x.log.length x.log∧Kd.C (Kd.int .i64) w A7 x.acks.length x.acks∧Kd.C k63 w A8 x.votes.length x.votes:=by
 obtain ⟨P6,P7,P8,h6,h7,h8,a6,a7,hq⟩:=h
 obtain ⟨A6,c6,rfl,e6,k6⟩:=Kd.R_reads h6
 obtain ⟨A7,c7,rfl,e7,k7⟩:=Kd.R_reads h7
 obtain ⟨A8,c8,rfl⟩:=Kd.V_slice h8
 have k8:=Kd.V_reads' h8
 exact ⟨A6,c6,A7,c7,A8,c8,rfl,rfl,rfl,e6,e7,k8.2.1,k6,k7,k8.2.2⟩
theorem Own3.arg (h:Own3 w base Q x v6 v7 v8) (hf:Fits x):∃ A6 c6 A7 c7 A8 c8,v6=.slice A6 x.log.length c6∧v7=.slice A7 x.acks.length c7∧v8=.slice A8 x.votes.length c8 ∧
  ∀ W:World,(∀ k,Q k→k < w.heap.size→W.heap[k]?=w.heap[k]?)→Arg W x A6 A7 A8 c6 c7 c8:=by
 obtain ⟨P6,P7,P8,h6,h7,h8,a6,a7,hq⟩:=h
 obtain ⟨A6,c6,rfl⟩:=Kd.R_slice h6
 obtain ⟨A7,c7,rfl⟩:=Kd.R_slice h7
 obtain ⟨A8,c8,rfl⟩:=Kd.V_slice h8
 refine ⟨A6,c6,A7,c7,A8,c8,rfl,rfl,rfl,fun W hm=>?_⟩
 have g6:=Kd.R_reads' (Kd.R_step h6 (w1:=W) (fun k hk hl=>hm k (hq k (.inl hk)).1 hl))
 have g7:=Kd.R_reads' (Kd.R_step h7 (w1:=W) (fun k hk hl=>hm k (hq k (.inr (.inl hk))).1 hl))
 have g8:=Kd.V_reads' (Kd.V_step h8 (w1:=W) (fun k hk hl=>hm k (hq k (.inr (.inr hk))).1 hl))
 exact ⟨g6.2.2,g6.2.1,g7.2.2,g7.2.1,g8.2.2,g8.2.1,hf.log,hf.acks,hf.votes,hf.each⟩
theorem Row9.step (h:Row9 w Q v9 l) (hs:w.heap.size≤W.heap.size) (hm:∀ k,Q k→k < w.heap.size→W.heap[k]?=w.heap[k]?):Row9 W Q v9 l:=by
 obtain ⟨A,c,rfl,e,k⟩:=h
 exact ⟨A,c,rfl,e,fun W' hw=>k W' (fun j hj hl=>(hw j hj (Nat.lt_of_lt_of_le hl hs)).trans (hm j hj hl))⟩
theorem row9_S {ok:Nat→Prop} (h:Kd.S k28 28 w base ok v9 l) (hq:∀ k,base≤k→k < w.heap.size→Q k):Row9 w Q v9 l:=by
 obtain ⟨A,c,rfl,e,k⟩:=Kd.S_reads h
 exact ⟨A,c,rfl,e,fun W hw=>(Kd.S_reads' (Kd.S_step (Kd.S_bound h) (fun j hj hl=>hw j (hq j hj.2.1 hl) hl))).2.2⟩
theorem row9_nil:Row9 w Q (.slice none 0 0) []:=⟨none,0,rfl,Nat.le_refl _,fun W _=>(Kd.S_reads' (Kd.S_nil k28 28 W 0 (fun _=>True))).2.2⟩
theorem own3_mk {ok6 ok7 ok8:Nat→Prop} (h6:Kd.R Kd.string 9 w base ok6 v6 x.log) (h7:Kd.R (Kd.int .i64) 3 w base ok7 v7 x.acks) (h8:Kd.V k63 63 w base (fun k=>ok8 k∧some k≠v6.ownBlock∧some k≠v7.ownBlock) v8 x.votes)
  (q6:∀ k,ok6 k→k < w.heap.size→Q k) (q7:∀ k,ok7 k→k < w.heap.size→Q k) (q8:∀ k,ok8 k→k < w.heap.size→Q k):Own3 w base Q x v6 v7 v8:=by
 refine ⟨_,_,_,Kd.R_bound (Kd.R_tight2 rfl h6),Kd.R_bound (Kd.R_tight2 rfl h7),Kd.V_bound h8,?_,?_,?_⟩
 ·rintro k ⟨hk,-,-,q,hq,cells,hc⟩
  refine ⟨?_,fun hn=>hn.1.2.1 hk.1⟩
  rintro ⟨hj,-,-,q',hq',cells',hc'⟩
  rw [hc] at hc'
  have e1:q=9:=(List.mem_cons.1 hq).elim id (fun h=>absurd (show q∈([]:List Nat) from h) List.not_mem_nil)
  have e2:q'=3:=(List.mem_cons.1 hq').elim id (fun h=>absurd (show q'∈([]:List Nat) from h) List.not_mem_nil)
  subst e1;subst e2
  simp at hc'
 ·rintro k ⟨hk,-⟩ hn
  exact hn.1.2.2 hk.1
 ·rintro k (hk | hk | hk)
  ·exact ⟨q6 k hk.1.2 hk.2.2.1,hk.2.2.1⟩
  ·exact ⟨q7 k hk.1.2 hk.2.2.1,hk.2.2.1⟩
  ·exact ⟨q8 k hk.1.1 hk.2,hk.2⟩
theorem Res.own3 (h:Res w base x v6 v7 v8 v9) (hq:∀ k,base≤k→k < w.heap.size→Q k) (hb:base'≤base):Own3 w base' Q x v6 v7 v8:=by
 obtain ⟨P6,P7,P8,P9,h6,h7,h8,h9,a6,a7,a8⟩:=h
 refine ⟨_,_,_,Kd.R_lower (Kd.R_bound h6) hb,Kd.R_lower (Kd.R_bound h7) hb,Kd.S_V (Kd.S_lower (Kd.S_bound h8) hb),fun k hk=>⟨fun q=>(a6 k hk.1).1 q.1,fun q=>(a6 k hk.1).2.1 q.1⟩,fun k hk q=>(a7 k hk.1).1 q.1,?_⟩
 rintro k (hk | hk | hk)
 ·exact ⟨hq k hk.2.1 hk.2.2.1,hk.2.2.1⟩
 ·exact ⟨hq k hk.2.1 hk.2.2.1,hk.2.2.1⟩
 ·exact ⟨hq k hk.2.1 hk.2.2.1,hk.2.2.1⟩
end
end
end Go.Proofs.YtfpfpckocemmdaaGreat.P
