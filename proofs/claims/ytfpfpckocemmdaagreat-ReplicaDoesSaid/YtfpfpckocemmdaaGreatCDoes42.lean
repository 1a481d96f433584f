/- Part 42 of the walk. -/
import Derived.Test.YtfpfpckocemmdaaGreatCDoes41
set_option linter.unusedVariables false
set_option linter.unusedSimpArgs false
set_option maxHeartbeats 8000000
set_option maxRecDepth 100000
namespace Go.Proofs.YtfpfpckocemmdaaGreat.P
open Go.RowKit Go.Proofs.YtfpfpckocemmdaaGreatW.PrintWords Go.Proofs.YtfpfpckocemmdaaGreatW.PrintLast Go.Proofs.YtfpfpckocemmdaaGreatW.PrintMore
section
attribute [local go_sem] max2_mx min2_mn max_two min_two max_three min_three max_four min_four
theorem own3_none {w:World} {base:Nat} {Q:Nat→Prop} (x:Nod) (h6:x.log=[]) (h7:x.acks=[]) (h8:x.votes=[]):Own3 w base Q x (.slice none 0 0) (.slice none 0 0) (.slice none 0 0) :=
 own3_mk (ok6:=fun _=>False) (ok7:=fun _=>False) (ok8:=fun _=>False) (by rw [h6];exact Kd.R_nil _ _ _ _ _) (by rw [h7];exact Kd.R_nil _ _ _ _ _) (by rw [h8];exact Kd.V_nil _ _ _ _ _) (fun _ h=>h.elim) (fun _ h=>h.elim) (fun _ h=>h.elim)
theorem Fr.own {w0 w W:World} {Q:Nat→Prop} {gx gm gz n tm:Nat} {cx cm cz:Array Value} {y y1:Nod} {v6 v7 v8 u6 u7 u8:Value} (h:Fr w0 w W Q gx gm gz n tm cx cm cz y v6 v7 v8) (o:Own3 W w0.heap.size (Qn Q w n) y1 u6 u7 u8):Fr w0 w W Q gx gm gz n tm cx cm cz y1 u6 u7 u8:=⟨h.ax,h.x,h.m,h.z,h.b,h.k,h.s,o⟩
theorem Own3.with_acks {w W:World} {base:Nat} {Q:Nat→Prop} {x:Nod} {v6 v7 v8 v:Value} {r:List Int} (h:Own3 w base Q x v6 v7 v8) (hb:Below w.heap.size w W) (hB:base≤w.heap.size) (hr:Kd.R (Kd.int .i64) 3 W w.heap.size (fun _=>True) v r) (hq:∀ k,w.heap.size≤k→Q k):Own3 W base Q { x with acks:=r } v6 v v8:=by
 obtain ⟨P6,P7,P8,h6,h7,h8,a6,a7,hl⟩:=h
 refine ⟨P6,_,P8,Kd.R_below h6 hb,Kd.R_lower (Kd.R_bound hr) hB,Kd.V_below h8 hb,fun k hk=>⟨fun q=>?_,(a6 k hk).2⟩,fun k hk q=>?_,?_⟩
 ·have:=(hl k (.inl hk)).2;have:=q.2.1;omega
 ·have:=(hl k (.inr (.inr q))).2;have:=hk.2.1;omega
 ·rintro k (hk | hk | hk)
  ·exact ⟨(hl k (.inl hk)).1,Nat.lt_of_lt_of_le (hl k (.inl hk)).2 hb.size⟩
  ·exact ⟨hq k hk.2.1,hk.2.2.1⟩
  ·exact ⟨(hl k (.inr (.inr hk))).1,Nat.lt_of_lt_of_le (hl k (.inr (.inr hk))).2 hb.size⟩
theorem Own3.no_votes {w:World} {base:Nat} {Q:Nat→Prop} {x:Nod} {v6 v7 v8:Value} (h:Own3 w base Q x v6 v7 v8):Own3 w base Q { x with votes:=[] } v6 v7 (.slice none 0 0):=by
 obtain ⟨P6,P7,P8,h6,h7,h8,a6,a7,hl⟩:=h
 exact ⟨P6,P7,fun _=>False,h6,h7,Kd.V_nil _ _ _ _ _,fun k hk=>⟨(a6 k hk).1,id⟩,fun _ _=>id,fun k hk=>hl k (hk.elim .inl (fun hk=>.inr (hk.elim .inl False.elim)))⟩
theorem s63_one {W:World} {g base:Nat} {v:S63} {v3:Value} (h:W.heap[g]?=some (.cells #[.int .i64 v.f0,.int .i64 v.f1,.int .i64 v.f2,v3] 63 (0,0))) (hg:base≤g) (h3:Kd.R Kd.string 9 W base (fun k=>k≠g) v3 v.f3):Kd.S k63 63 W base (fun _=>True) (.slice (some ⟨g,0,none⟩) 1 1) [v]:=by
 refine ⟨fun _=>0,fun _ _=>trivial,[.int .i64 v.f0,.int .i64 v.f1,.int .i64 v.f2,v3],⟨rfl,.inr ⟨g,1,_,rfl,hg,h,Nat.le_refl _,by decide,rfl,rfl⟩⟩,rfl,fun j p hj=>?_⟩
 cases j with
 | succ j=>simp at hj
 | zero =>
  obtain rfl:(v,0)=p:=by simpa using hj
  exact k63_mkM W base _ v (Kd.R_mono h3 (fun k hk=>⟨⟨trivial,fun e=>hk (by simpa [Value.ownBlock] using e)⟩,rfl⟩))
theorem sl6 {W:World} {base:Nat} {Q:Nat→Prop} {y:Nod} {A:Option Addr} {n c:Nat} {v7 v8:Value} (h:Own3 W base Q y (.slice A n c) v7 v8):Kd.C Kd.string W A y.log.length y.log∧y.log.length≤c:=by
 obtain ⟨A6,c6,A7,c7,A8,c8,e,-,-,l6,-,-,h6,-⟩:=h.reads
 cases e;exact ⟨h6,l6⟩
end
section
@[reducible] def ld3 (n:Nat):Op:=Op.load 3 (Operand.tmp n)
theorem ld3_eq (n:Nat):Op.load 3 (Operand.tmp n)=ld3 n:=rfl
abbrev C9 (g:Nat) (r:Nod) (v6 v7 v8:Value) (W:World):Prop:=W.cell? ⟨g,0,none⟩=some (.int .i64 r.id)∧W.cell? ⟨g,1,none⟩=some (.int .i64 r.n)∧W.cell? ⟨g,2,none⟩=some (.int .i64 r.view)∧W.cell? ⟨g,3,none⟩=some (.int .i64 r.last)∧W.cell? ⟨g,4,none⟩=some (.bool r.works)∧W.cell? ⟨g,5,none⟩=some (.int .i64 r.commit)∧W.cell? ⟨g,6,none⟩=some v6∧W.cell? ⟨g,7,none⟩=some v7∧W.cell? ⟨g,8,none⟩=some v8
def RN (w0 w:World) (Q:Nat→Prop) (y:Nod) (e:Ending) (w':World):Prop:=∃ u6 u7 u8,e=.returned (ag y u6 u7 u8)∧Own3 w' w0.heap.size (fun k=>Q k∨w.heap.size≤k) y u6 u7 u8∧Below w0.heap.size w0 w'∧w.heap.size≤w'.heap.size∧∀ k,k < w.heap.size→¬ Q k→w'.heap[k]?=w.heap[k]?
def RM (w0 w:World) (Q:Nat→Prop) (y:Nod) (e:Ending) (w':World):Prop:=∃ u6 u7 u8 u9,e=.returned (.tuple #[ag y u6 u7 u8,u9])∧Own3 w' w0.heap.size (fun k=>Q k∨w.heap.size≤k) y u6 u7 u8∧Row9 w' (fun k=>Q k∨w.heap.size≤k) u9 y.told∧Below w0.heap.size w0 w'∧w.heap.size≤w'.heap.size∧∀ k,k < w.heap.size→¬ Q k→w'.heap[k]?=w.heap[k]?
section
variable {w0 w W W1:World} {Q:Nat→Prop} {gx gm gz n tm:Nat} {cx cx' cx2 cx3 cm cz:Array Value} {y y1:Nod} {v6 v7 v8 u6 u7 u8 u9:Value} {a0 a1 a2 a3 a4 a5 a6 a7 a8 b0 b1 b2 b3 b4 b5 b6 b7 b8:Value} {P:World→Prop} {f:FuncId} {args:Array Value} {R:Ending→World→Prop}
def Fr.at (_:Fr w0 w W Q gx gm gz n tm cx cm cz y v6 v7 v8) (y1:Nod) (V:World):Prop:=Fr w0 w V Q gx gm gz n tm cx cm cz y1 v6 v7 v8
theorem Fr.gen (h:Fr w0 w W Q gx gm gz n tm cx cm cz y v6 v7 v8) (k:∀ V,Fr w0 w V Q gx gm gz n tm cx cm cz y v6 v7 v8→P V):P W:=k W h
theorem Fr.genC (h:Fr w0 w W Q gx gm gz n tm cx cm cz y v6 v7 v8) (k:∀ V,Fr w0 w V Q gx gm gz n tm cx cm cz y v6 v7 v8→Calls Tryz.prog f args V R):Calls Tryz.prog f args W R:=k W h
theorem Fr.put9k (h:Fr w0 w W Q gx gm gz n tm #[b0,b1,b2,b3,b4,b5,b6,b7,b8] cm cz y v6 v7 v8) (k:∀ V,Fr w0 w V Q gx gm gz n tm #[a0,a1,a2,a3,a4,a5,a6,a7,a8] cm cz y v6 v7 v8→P V):P (((((((((W.setCell ⟨gx,0,none⟩ a0).setCell ⟨gx,1,none⟩ a1).setCell ⟨gx,2,none⟩ a2).setCell ⟨gx,3,none⟩ a3).setCell ⟨gx,4,none⟩ a4).setCell ⟨gx,5,none⟩ a5).setCell ⟨gx,6,none⟩ a6).setCell ⟨gx,7,none⟩ a7).setCell ⟨gx,8,none⟩ a8):=k _ (h.put9 ..)
theorem Fr.put1k {i1:Nat} {s1:Value} (h:Fr w0 w W Q gx gm gz n tm cx cm cz y v6 v7 v8) (e:cx.setIfInBounds i1 s1=cx') (k:∀ V,Fr w0 w V Q gx gm gz n tm cx' cm cz y v6 v7 v8→P V):P (W.setCell ⟨gx,i1,none⟩ s1):=k _ (h.put1 _ _ e)
theorem Fr.put2k {i1 i2:Nat} {s1 s2:Value} (h:Fr w0 w W Q gx gm gz n tm cx cm cz y v6 v7 v8) (e:(cx.setIfInBounds i1 s1).setIfInBounds i2 s2=cx') (k:∀ V,Fr w0 w V Q gx gm gz n tm cx' cm cz y v6 v7 v8→P V):P ((W.setCell ⟨gx,i1,none⟩ s1).setCell ⟨gx,i2,none⟩ s2):=k _ ((h.put1 _ _ rfl).put1 _ _ e)
theorem Fr.put3k {i1 i2 i3:Nat} {s1 s2 s3:Value} (h:Fr w0 w W Q gx gm gz n tm cx cm cz y v6 v7 v8) (e:((cx.setIfInBounds i1 s1).setIfInBounds i2 s2).setIfInBounds i3 s3=cx') (k:∀ V,Fr w0 w V Q gx gm gz n tm cx' cm cz y v6 v7 v8→P V):P (((W.setCell ⟨gx,i1,none⟩ s1).setCell ⟨gx,i2,none⟩ s2).setCell ⟨gx,i3,none⟩ s3):=k _ (((h.put1 _ _ rfl).put1 _ _ rfl).put1 _ _ e)
theorem Fr.put4k {i1 i2 i3 i4:Nat} {s1 s2 s3 s4:Value} (h:Fr w0 w W Q gx gm gz n tm cx cm cz y v6 v7 v8) (e:(((cx.setIfInBounds i1 s1).setIfInBounds i2 s2).setIfInBounds i3 s3).setIfInBounds i4 s4=cx') (k:∀ V,Fr w0 w V Q gx gm gz n tm cx' cm cz y v6 v7 v8→P V):P ((((W.setCell ⟨gx,i1,none⟩ s1).setCell ⟨gx,i2,none⟩ s2).setCell ⟨gx,i3,none⟩ s3).setCell ⟨gx,i4,none⟩ s4):=k _ ((((h.put1 _ _ rfl).put1 _ _ rfl).put1 _ _ rfl).put1 _ _ e)
theorem Fr.boxk {b t:Nat} {cs:Array Value} {ok:Nat→Prop} {v:Value} {l:List ByteArray} (h:Fr w0 w W Q gx gm gz n tm cx cm cz y v6 v7 v8) (hr:Kd.R Kd.string 9 W b ok v l) (k:∀ V,Fr w0 w V Q gx gm gz n tm cx cm cz y v6 v7 v8→V.heap[W.heap.size]?=some (.cells cs t (0,0))→Kd.R Kd.string 9 V b ok v l→P V):P (W.alloc (.cells cs t)):=k _ (h.call (below_alloc (Below.refl _ _) _)) (x_alloc_new W _) (Kd.R_alloc hr _)
theorem Fr.boxy {t:Nat} {cs:Array Value} {l:List S28} (h:Fr w0 w W Q gx gm gz n tm cx cm cz y v6 v7 v8) (h9:Row9 W (Qn Q w n) u9 l) (k:∀ V,Fr w0 w V Q gx gm gz n tm cx cm cz y v6 v7 v8→Row9 V (Qn Q w n) u9 l→V.heap[W.heap.size]?=some (.cells cs t (0,0))→P V):P (W.alloc (.cells cs t)) :=
 have hb:=below_alloc (Below.refl W.heap.size W) (.cells cs t)
 k _ (h.call hb) (h9.step hb.size (fun k _ hk=>hb.block k hk)) (x_alloc_new W _)
theorem Fr.make7 {ops:Array Oper} {Qx:Exit→Act→World→Prop} {o:Oper} {rest:List Oper} {a:Act} {N:Tmp} {s s':Operand} (h:Fr w0 w W Q gx gm gz n tm cx cm cz y v6 v7 v8) (hd:o.dst=some N) (hgd:o.guard=none) (ho:o.op=.makeSlice 23 s s') (hx:a.eval s=.int .i64 y.n) (hy:a.eval s'=.int .i64 y.n) (h1:1≤y.n) (h2:y.n≤1000) (k:∀ B d V,Fr w0 w V Q gx gm gz n tm cx cm cz { y with acks:=List.replicate y.n.toNat 0 } v6 (.slice B y.n.toNat d) v8→wpList Tryz.prog ops Qx rest (a.put o.dst (.slice B y.n.toNat d)) V):wpList Tryz.prog ops Qx (o::rest) a W:=by
 refine Kd.R_make (Kd.int .i64) _ 3 hgd hd 23 _ _ ho y.n hx hy Tryz.underlying23 (.int .i64 0) 8 info3 rfl (by decide) (by omega) 0 (ok:=fun _=>True) (okp:=fun _=>True) rfl (fun _ hk=>hk) trivial (by omega) (by omega) (Below.refl _ _) (Nat.le_refl _) ?_
 intro v7 w3 hr7 hb _ _
 obtain ⟨B,d,e⟩:=Kd.R_slice hr7
 rw [List.length_replicate] at e
 subst e
 exact k B d w3 ((h.call hb).own (h.o.with_acks hb (by have:=h.b.size;have:=h.s;have:=h.ax;omega) hr7 (fun k hk=>.inr (Nat.le_trans h.s hk))))
theorem Fr.xs (h:Fr w0 w W Q gx gm gz n tm #[a0,a1,a2,a3,a4,a5,a6,a7,a8] cm cz y v6 v7 v8):W.cell? ⟨gx,0,none⟩=some a0∧W.cell? ⟨gx,1,none⟩=some a1∧W.cell? ⟨gx,2,none⟩=some a2∧W.cell? ⟨gx,3,none⟩=some a3∧W.cell? ⟨gx,4,none⟩=some a4∧W.cell? ⟨gx,5,none⟩=some a5∧W.cell? ⟨gx,6,none⟩=some a6∧W.cell? ⟨gx,7,none⟩=some a7∧W.cell? ⟨gx,8,none⟩=some a8∧∀ j,W.frozen? ⟨gx,j,none⟩=false:=by
 obtain ⟨h0,h1,h2,h3,h4,h5,h6,h7,h8⟩:=cells9 h.x
 exact ⟨h0,h1,h2,h3,h4,h5,h6,h7,h8,fr_of h.x⟩
theorem Fr.zs (h:Fr w0 w W Q gx gm gz n tm cx cm #[a0,a1,a2,a3,a4,a5,a6,a7,a8] y v6 v7 v8):W.cell? ⟨gz,0,none⟩=some a0∧W.cell? ⟨gz,1,none⟩=some a1∧W.cell? ⟨gz,2,none⟩=some a2∧W.cell? ⟨gz,3,none⟩=some a3∧W.cell? ⟨gz,4,none⟩=some a4∧W.cell? ⟨gz,5,none⟩=some a5∧W.cell? ⟨gz,6,none⟩=some a6∧W.cell? ⟨gz,7,none⟩=some a7∧W.cell? ⟨gz,8,none⟩=some a8∧∀ j,W.frozen? ⟨gz,j,none⟩=false:=by
 obtain ⟨h0,h1,h2,h3,h4,h5,h6,h7,h8⟩:=cells9 h.z
 exact ⟨h0,h1,h2,h3,h4,h5,h6,h7,h8,fr_of h.z⟩
theorem Fr.zz (h:Fr w0 w W Q gx gm gz n tm cx cm cz y v6 v7 v8) (a0 a1 a2 a3 a4 a5 a6 a7 a8:Value):(((((((((W.setCell ⟨gz,0,none⟩ a0).setCell ⟨gz,1,none⟩ a1).setCell ⟨gz,2,none⟩ a2).setCell ⟨gz,3,none⟩ a3).setCell ⟨gz,4,none⟩ a4).setCell ⟨gz,5,none⟩ a5).setCell ⟨gz,6,none⟩ a6).setCell ⟨gz,7,none⟩ a7).setCell ⟨gz,8,none⟩ a8).heap[gx]?=some (.cells cx 26 (0,0)):=far9 h.x h.ax.2.2.2.2.2.2.2.1 ..
theorem Fr.al (h:Fr w0 w W Q gx gm gz n tm cx cm cz y v6 v7 v8) (o:Obj):Fr w0 w (W.alloc o) Q gx gm gz n tm cx cm cz y v6 v7 v8:=h.call (below_alloc (Below.refl _ _) o)
theorem Fr.pz (h:Fr w0 w W Q gx gm gz n tm cx cm #[b0,b1,b2,b3,b4,b5,b6,b7,b8] y v6 v7 v8) (hne:gm≠gz):Fr w0 w (((((((((W.setCell ⟨gz,0,none⟩ a0).setCell ⟨gz,1,none⟩ a1).setCell ⟨gz,2,none⟩ a2).setCell ⟨gz,3,none⟩ a3).setCell ⟨gz,4,none⟩ a4).setCell ⟨gz,5,none⟩ a5).setCell ⟨gz,6,none⟩ a6).setCell ⟨gz,7,none⟩ a7).setCell ⟨gz,8,none⟩ a8) Q gx gm gz n tm cx cm #[a0,a1,a2,a3,a4,a5,a6,a7,a8] y v6 v7 v8:=by
 have ha:=h.ax
 exact ⟨ha,far9 h.x ha.2.2.2.2.2.2.2.1 ..,far9 h.m hne ..,putr9 h.z ..,below9 h.b (by omega) ..,fun k h1 h2=>(keep9 k (by omega) ..).trans (h.k k h1 h2),Nat.le_trans h.s (Nat.le_of_eq (size9 ..).symm),h.o.step (Nat.le_of_eq (size9 ..).symm) (fun k hk _=>keep9 k (by rcases hk with hk | hk<;>omega) ..)⟩
theorem Fr.as (h:Fr w0 w W Q gx gm gz n tm cx cm cz y v6 v7 v8) (e:Value.agg cx=ag y1 v6 v7 v8) (e6:y1.log=y.log) (e7:y1.acks=y.acks) (e8:y1.votes=y.votes):Fr w0 w W Q gx gm gz n tm #[.int .i64 y1.id,.int .i64 y1.n,.int .i64 y1.view,.int .i64 y1.last,.bool y1.works,.int .i64 y1.commit,v6,v7,v8] cm cz y1 v6 v7 v8:=by
 injection e with e
 subst e
 exact h.node e6 e7 e8
abbrev Fr.to (_:Fr w0 w W Q gx gm gz n tm cx cm cz y v6 v7 v8) (y1:Nod) (V:World):Prop:=∃ u6 u7 u8,Fr w0 w V Q gx gm gz n tm #[.int .i64 y1.id,.int .i64 y1.n,.int .i64 y1.view,.int .i64 y1.last,.bool y1.works,.int .i64 y1.commit,u6,u7,u8] cm cz y1 u6 u7 u8
theorem Fin.two {E:World} {row:Array Value} {e:Ending} (h:Fin w0 w E Q gz row y v6 v7 v8) (h9:Row9 E (fun k=>Q k∨w.heap.size≤k) u9 y.told) (he:e=.returned (.tuple #[ag y v6 v7 v8,u9])):RM w0 w Q y e E:=⟨_,_,_,_,he,h.own,h9,h.below,h.size,h.keep⟩
theorem Fr.done {fn:Func} {a:Act} {p u:Tmp} (h:Fr w0 w W Q gx gm gz n tm cx cm #[b0,b1,b2,b3,b4,b5,b6,b7,b8] y v6 v7 v8) (h9:Row9 W (Qn Q w n) u9 y.told) (he:Value.agg #[a0,a1,a2,a3,a4,a5,a6,a7,a8]=ag y v6 v7 v8) (hr:fn.results=#[.cell p 26,.tmp u]) (hp:a.tmps.getD p undef=.pointer (some ⟨gz,0,none⟩)) (hd:a.defers=[]) (hu:a.tmps.getD u undef=u9):bodyPost Tryz.prog fn (RM w0 w Q y) .ret a (((((((((W.setCell ⟨gz,0,none⟩ a0).setCell ⟨gz,1,none⟩ a1).setCell ⟨gz,2,none⟩ a2).setCell ⟨gz,3,none⟩ a3).setCell ⟨gz,4,none⟩ a4).setCell ⟨gz,5,none⟩ a5).setCell ⟨gz,6,none⟩ a6).setCell ⟨gz,7,none⟩ a7).setCell ⟨gz,8,none⟩ a8):=by
 have hE:=h.ret a0 a1 a2 a3 a4 a5 a6 a7 a8
 injection he with he
 rw [he] at hE
 have ha:=h.ax
 refine bodyPost_ret (results_ct hr _ _ _ 26 _ (0,0) _ hp hE.row Tryz.underlying26 rfl (by kernel_rfl)) hd (hE.two (u9:=u9) ?_ (by rw [hu]))
 exact (h9.step (Nat.le_of_eq (size9 ..).symm) (fun k hk hl=>keep9 k (by rcases hk with hk | hk<;>omega) ..)).mono (fun k hk _=>hk.elim (fun hk=>.inl hk.1) (fun hk=>.inr (by omega)))
theorem Fr.done1 {fn:Func} {a:Act} {p:Tmp} (h:Fr w0 w W Q gx gm gz n tm cx cm #[b0,b1,b2,b3,b4,b5,b6,b7,b8] y v6 v7 v8) (he:Value.agg #[a0,a1,a2,a3,a4,a5,a6,a7,a8]=ag y v6 v7 v8) (hr:fn.results=#[.cell p 26]) (hp:a.tmps.getD p undef=.pointer (some ⟨gz,0,none⟩)) (hd:a.defers=[]):bodyPost Tryz.prog fn (RN w0 w Q y) .ret a (((((((((W.setCell ⟨gz,0,none⟩ a0).setCell ⟨gz,1,none⟩ a1).setCell ⟨gz,2,none⟩ a2).setCell ⟨gz,3,none⟩ a3).setCell ⟨gz,4,none⟩ a4).setCell ⟨gz,5,none⟩ a5).setCell ⟨gz,6,none⟩ a6).setCell ⟨gz,7,none⟩ a7).setCell ⟨gz,8,none⟩ a8):=by
 have hE:=h.ret a0 a1 a2 a3 a4 a5 a6 a7 a8
 injection he with he
 rw [he] at hE
 exact bodyPost_ret (results_cell_row hr _ _ _ 26 _ (0,0) _ hp hE.row Tryz.underlying26 rfl (by kernel_rfl)) hd ⟨_,_,_,rfl,hE.own,hE.below,hE.size,hE.keep⟩
theorem Fr.sayd {fn:Func} {a:Act} {p u:Tmp} {E:World} {m:S28} {vm:Value} {b:Nat} {ok:Nat→Prop} (h:Fr w0 w W Q gx gm gz n tm cx cm cz y v6 v7 v8) (hE:Said W E gz #[a0,a1,a2,a3,a4,a5,a6,a7,a8] (.cells #[.int .i64 m.f0,.int .i64 m.f1,.int .i64 m.f2,.int .i64 m.f3,.int .i64 m.f4,.int .i64 m.f5,.int .i64 m.f6,vm] 28 (0,0))) (ht:y.told=[m]) (hm:Kd.R Kd.string 9 W b ok vm m.f7) (hb:n≤b) (he:Value.agg #[a0,a1,a2,a3,a4,a5,a6,a7,a8]=ag y v6 v7 v8) (hr:fn.results=#[.cell p 26,.tmp u]) (hp:a.tmps.getD p undef=.pointer (some ⟨gz,0,none⟩)) (hd:a.defers=[]) (hu:a.tmps.getD u undef=.slice (some ⟨W.heap.size,0,none⟩) 1 1):bodyPost Tryz.prog fn (RM w0 w Q y) .ret a E:=by
 have hF:=h.said hE
 injection he with he
 rw [he] at hF
 have ha:=h.ax
 have hs:=h.s
 refine bodyPost_ret (results_ct hr _ _ _ 26 _ (0,0) _ hp hF.row Tryz.underlying26 rfl (by kernel_rfl)) hd (hF.two ?_ (by rw [hu]))
 rw [ht]
 exact row9_one hE.msg (.inr (by omega)) (Kd.R_step (Kd.R_bound hm) (fun k hk hl=>hE.rest k (by have:=hk.2.1;omega) hl)) (fun k hk _=>.inr (by omega))
end
theorem sl8 {W:World} {base:Nat} {Q:Nat→Prop} {y:Nod} {A:Option Addr} {n c:Nat} {v6 v7:Value} (h:Own3 W base Q y v6 v7 (.slice A n c)):Kd.C k63 W A y.votes.length y.votes∧y.votes.length≤c:=by
 obtain ⟨A6,c6,A7,c7,A8,c8,-,-,e,-,-,l8,-,-,h8⟩:=h.reads
 cases e;exact ⟨h8,l8⟩
theorem Own3.set_ack {w:World} {base ga n c7:Nat} {Q:Nat→Prop} {x:Nod} {v6 v8:Value} (h:Own3 w base Q x v6 (.slice (some ⟨ga,0,none⟩) n c7) v8) (i y:Int):Own3 (w.setCell ⟨ga,i.toNat,none⟩ (.int .i64 y)) base Q { x with acks:=x.acks.set i.toNat y } v6 (.slice (some ⟨ga,0,none⟩) n c7) v8:=by
 obtain ⟨P6,P7,P8,h6,h7,h8,a6,a7,hl⟩:=h
 have hP:P7 ga:=h7.1 ga rfl
 exact ⟨P6,P7,P8,Kd.R_far h6 (fun k hk e=>(a6 k hk).1 (by rw [show k=ga from e];exact hP)) _,(Kd.R_putg h7 i y).1,Kd.V_step h8 (fun k hk _=>keep1 k (fun e=>a7 ga hP (by rw [← show k=ga from e];exact hk)) _),a6,a7,fun k hk=>by rw [size1];exact hl k hk⟩
theorem Own3.cell7 {w:World} {base:Nat} {Q:Nat→Prop} {x:Nod} {v6 v7 v8:Value} (h:Own3 w base Q x v6 v7 v8) (i:Int) (h0:0≤i) (h1:i < (x.acks.length:Int)):∃ ga d7,v7=.slice (some ⟨ga,0,none⟩) x.acks.length d7∧w.cell? ⟨ga,i.toNat,none⟩=some (.int .i64 (rdOf 0 x.acks i))∧w.frozen? ⟨ga,i.toNat,none⟩=false∧Q ga∧ga < w.heap.size∧base≤ga:=by
 obtain ⟨P6,P7,P8,h6,h7,h8,a6,a7,hl⟩:=h
 obtain ⟨ga,d7,rfl,gb7,gl7,cl7,hg7⟩:=Kd.R_form h7 (by omega)
 obtain ⟨hx,hfz⟩:=Kd.R_celln (0:Int) h7 i h0 h1
 exact ⟨ga,d7,rfl,hx,hfz,(hl ga (.inr (.inl (h7.1 ga rfl)))).1,(hl ga (.inr (.inl (h7.1 ga rfl)))).2,Kd.R_base h7 ga rfl⟩
theorem fr3 {w0 w:World} {Q:Nat→Prop} {y:Nod} {v6 v7 v8:Value} (hB:Below w0.heap.size w0 w) (h:Own3 w w0.heap.size Q y v6 v7 v8) (m:S28) (A:Option Addr) (c:Nat):Fr w0 w (((w.alloc (.cells (row9 y v6 v7 v8) 26)).alloc (.cells (mg m A c) 28)).alloc (.cells zer9 26)) Q w.heap.size (w.heap.size+1) (w.heap.size+1+1) (w.heap.size+1+1+1) 28 (row9 y v6 v7 v8) (mg m A c) zer9 y v6 v7 v8:=fr_three hB h _ _ _
theorem fr2 {w0 w:World} {Q:Nat→Prop} {y:Nod} {v6 v7 v8:Value} (hB:Below w0.heap.size w0 w) (h:Own3 w w0.heap.size Q y v6 v7 v8):Fr w0 w ((w.alloc (.cells (row9 y v6 v7 v8) 26)).alloc (.cells zer9 26)) Q w.heap.size (w.heap.size+1) (w.heap.size+1) (w.heap.size+1+1) 26 (row9 y v6 v7 v8) zer9 zer9 y v6 v7 v8:=fr_two hB h _ _
end
theorem rall_calls (x:Nod) (hn:x.n≤1000) (hl:x.log.length≤1000) {base:Nat} {Q:Nat→Prop} {v6 v7 v8:Value} {w:World} (h:Own3 w base Q x v6 v7 v8) :
  Calls Tryz.prog 33 #[ag x v6 v7 v8] w fun e w'=>∃ u9,e=.returned u9∧Kd.S k28 28 w' w.heap.size (fun _=>True) u9 (x.upto x.n.toNat)∧Below w.heap.size w w':=by
 have hu26:=Tryz.underlying26
 have hu22:=Tryz.underlying22
 have hu31:=Tryz.underlying31
 obtain ⟨A6,c6,A7,c7,A8,c8,rfl,rfl,rfl⟩:∃ A6 c6 A7 c7 A8 c8,v6=.slice A6 x.log.length c6∧v7=.slice A7 x.acks.length c7∧v8=.slice A8 x.votes.length c8:=by
  obtain ⟨A6,c6,A7,c7,A8,c8,h6,h7,h8,-⟩:=h.reads
  exact ⟨A6,c6,A7,c7,A8,c8,h6,h7,h8⟩
 have hC:=sl6 h
 have H:=rd1 w (row9 x (.slice A6 x.log.length c6) (.slice A7 x.acks.length c7) (.slice A8 x.votes.length c8)) 26
 dsimp only [ag,row9] at H ⊢
 go_enter Tryz.func33,Tryz.ntmps33
 go_upto_region 1 with (fail)
 refine H.gen ?_;clear H;intro V H
 go_wp2_with (fail)
 go_loopg [3,4] x.n.toNat (fun kq s3 s4 w'=>∃ (i:Nat) (B:Option Addr) (b:Nat),s4=.int .i64 (i:Int)∧s3=.slice B (x.upto i).length b∧Aside0 (kq=x.n.toNat - i∧i≤x.n.toNat)∧Aside0 (Kd.S k28 28 w' (w.heap.size+1) (fun _=>True) s3 (x.upto i))∧H.at w')
 case atStart=>exact ⟨0,none,0,rfl,rfl,⟨by simp⟩,⟨Kd.S_nil k28 28 V (w.heap.size+1) (fun _=>True)⟩,H⟩
 case round =>
  obtain ⟨i,B,b,rfl,rfl,hi,hS,H⟩:=hrel
  replace H:Rd _ _ _ _ _:=H
  have hal:(x.upto i).length≤1000:=Nat.le_trans (Nod.upto_le x i) (by have:=hi.out;omega)
  obtain ⟨p0,p1,p2,p3,p4,p5,p6,p7,p8⟩:=cells9 H.x
  by_cases hlt:(i:Int) < x.n
  ·have hb1:decide ((i:Int) < x.n)=true:=decide_eq_true hlt
   have hT:=Aside0.mk (show x.upto (i+1)=x.upto i++if (i:Int)≠x.id then [x.prep i] else [] by unfold Nod.upto;rw [List.range_succ,List.filter_append,List.map_append];by_cases h:(i:Int)=x.id<;>simp [h])
   generalize x.upto i=acc at hS hal hT ⊢
   have hne:∀ k,wr.heap.size≤k→some k≠(Value.slice B acc.length b).ownBlock:=fun k hk h=>absurd (Kd.S_lt hS.out k h.symm) (by omega)
   have hw:wrap64 ((i:Int)+1)=((i+1:Nat):Int):=by unfold wrap64;omega
   cases hf:((i:Int) != x.id)
   ·go_wp2
    go_roundg (x.n.toNat - (i+1))
    case measure=>have:=hi.out.1;omega
    case rel =>
     rw [if_neg (by simpa using hf),List.append_nil] at hT
     exact ⟨i+1,B,b,by first | rfl | rw [hw],by rw [hT.out],⟨rfl,by omega⟩,by rw [hT.out];exact hS,H⟩
   ·go_wp2_with (fail)
    clear p0 p1 p2 p3 p4 p5 p6 p7 p8
    go_at_call 72
    refine (sextonref23_Prepare.calls _ _ _ _ A6 c6 x.log _ _ _ _ _ _ _ _ wr (Kd.C_below hC.1 H.b) hC.2 (rprepare_f _ _ _ _ _ hl)).mono ?_
    rintro e w1 ⟨u3,rfl,hr,hb⟩
    obtain ⟨D3,k3,rfl⟩:=Kd.R_slice hr
    have hs:=blk_lt H.x
    replace H:=H.call hb
    have hO:=Kd.S_below (Kd.S_bound hS.out) hb
    have hr:=Kd.R_lower (Kd.R_bound hr) (show w.heap.size+1≤wr.heap.size from hs)
    have hM:=k28_mkM w1 (w.heap.size+1) (fun k=>wr.heap.size≤k) (x.prep i) (Kd.R_mono hr (fun k hk=>hk.2.1))
    have hO:=Kd.S_mono (ok':=fun k=>True∧¬ wr.heap.size≤k) hO (fun k hk=>⟨trivial,by have:=hk.2.2.1;omega⟩)
    have hs2:=blk_lt H.x
    clear hr hb hS
    go_wp2_with ((with_reducible refine gate_builtin (b:=.append) (xs:=#[.tmp 15,.tmp 26]) rfl ?_);at_builtin;refine Kd.S_append k28 (w0:=w1) (w.heap.size+1) rfl (.tmp 15) (.tmp 26) 31 28 (.agg #[.int .i64 0,.int .i64 0,.int .i64 0,.int .i64 0,.int .i64 0,.int .i64 0,.int .i64 0,.slice none 0 0]) 80 rfl Tryz.underlying31 info28 rfl (by decide) (by omega) (.slice B acc.length b) acc (x.prep i) [.int .i64 1,.int .i64 x.id,.int .i64 (i:Int),.int .i64 x.view,.int .i64 0,.int .i64 x.commit,.int .i64 0,.slice D3 x.log.length k3] (fun _=>True) (fun k=>wr.heap.size≤k) rfl (by first | (go_simp;done) | (go_simp;rfl)) hM (fun k hk=>⟨trivial,hne k hk⟩) (fun _ _=>trivial) hO (Below.refl _ _) hs2 (by omega) ?_;intro v1 W1 hS1 hb1 hg1 hat1;obtain ⟨B1,b1,rfl⟩:=Kd.S_slice hS1)
    replace H:Rd _ W1 _ _ _:=⟨(hb1.block _ (Nat.lt_succ_self _)).trans H.x,H.b.trans (below_weak hb1 (Nat.le_succ _))⟩
    rw [List.length_append] at hS1
    go_roundg (x.n.toNat - (i+1))
    case measure=>have:=hi.out.1;omega
    case rel =>
     rw [if_pos (by simpa using hf)] at hT
     exact ⟨i+1,B1,b1,by first | rfl | rw [hw],by rw [hT.out,List.length_append];rfl,⟨rfl,by omega⟩,by rw [hT.out];exact ⟨hS1⟩,H⟩
  ·have hb1:decide ((i:Int) < x.n)=false:=decide_eq_false hlt
   rw [show i=x.n.toNat by have:=hi.out;omega] at hS ⊢
   go_wp2
   go_ret
   exact ⟨_,rfl,Kd.S_lower hS.out (Nat.le_succ _),H.b⟩
end Go.Proofs.YtfpfpckocemmdaaGreat.P
