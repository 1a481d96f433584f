/- Part 22 of the walk. -/
import Derived.Test.YtfpfpckocemmdaaGreatCDoes13
set_option linter.unusedVariables false
set_option linter.unusedSimpArgs false
set_option maxHeartbeats 8000000
set_option maxRecDepth 100000
namespace Go.Proofs.YtfpfpckocemmdaaGreat.P
open Go.RowKit Go.Proofs.YtfpfpckocemmdaaGreatW.PrintWords Go.Proofs.YtfpfpckocemmdaaGreatW.PrintLast Go.Proofs.YtfpfpckocemmdaaGreatW.PrintMore
theorem begin_did (x:Nod) (w0 w:World) (base g:Nat) (ok:Nat→Prop) (hg:Good x) (h:Did w0 w base g ok x) :
  Calls Tryz.prog 35 #[.pointer (some ⟨g,0,none⟩)] w fun e w'=>e=.returned (.tuple #[])∧Did w0 w' base g ok x.begin_:=by
 cases hw:x.works with
 | true =>
  have he:x.begin_=x:=by unfold Nod.begin_ Nod.may;rw [hw];rfl
  rw [he];exact begin_works x w0 w base g ok hw h
 | false =>
  cases hp:x.prim x.view with
  | false =>
   have he:x.begin_=x:=by unfold Nod.begin_ Nod.may;rw [hw,hp];rfl
   rw [he];exact begin_other x w0 w base g ok hw hg.n1 hg.view hp h
  | true =>
   cases hen:enoughOf x.votes x.n with
   | false =>
    have he:x.begin_=x:=by unfold Nod.begin_ Nod.may;rw [hw,hp,hen];rfl
    rw [he];exact begin_few x w0 w base g ok hg hw hp hen h
   | true =>
    have he:x.begin_=x.rise.clear.counts.tell:=by unfold Nod.begin_ Nod.may;rw [hw,hp,hen];rfl
    rw [he];exact begin_may x w0 w base g ok hg hw hp hen h
def Nod.acked (x:Nod) (m:S28):Nod:={ x with acks:=x.acks.set m.f1.toNat (max (x.acks.getD m.f1.toNat 0) (min m.f6 (x.log.length:Int))) }
def Nod.ack (x:Nod) (m:S28):Nod:=if x.leads=true∧m.f3≤x.view then (if (x.acked m).counts.commit > x.commit then (x.acked m).counts.tell else (x.acked m).counts) else x
theorem acked_good {x:Nod} (h:Good x) (m:S28):Good (x.acked m):=⟨h.n1,h.n2,h.id0,h.id1,h.view,h.log,by simpa [Nod.acked] using h.acks,h.votes,h.each,h.told⟩
theorem Did.set_ack {w0 w:World} {base g:Nat} {ok:Nat→Prop} {x:Nod} (h:Did w0 w base g ok x) (ga n c7:Nat) (hc:w.cell? ⟨g,7,none⟩=some (.slice (some ⟨ga,0,none⟩) n c7)) (i y:Int):Did w0 (w.setCell ⟨ga,i.toNat,none⟩ (.int .i64 y)) base g ok { x with acks:=x.acks.set i.toNat y }:=by
 have hn:=h.1.set_ack ga n c7 hc i y
 obtain ⟨v6,v7,v8,v9,P6,P7,P8,P9,hb,hg,hok,h6,h7,h8,h9,ho,a6,a7,a8⟩:=h.1
 have e7:v7=.slice (some ⟨ga,0,none⟩) n c7:=by
  have h1:w.cell? ⟨g,7,none⟩=some v7:=blk_cell hb 7
  rw [h1] at hc
  exact Option.some.inj hc
 subst e7
 have hP:P7 ga:=h7.1 ga rfl
 have hga:=(ho ga (.inr (.inl hP))).1
 have hbase:base≤ga:=Kd.R_base h7 ga rfl
 exact ⟨hn,h.2.1.setCell hga _,below_at h.2.2.1 hbase,h.2.2.2⟩
theorem quiet_leads (x:Nod) (w:World) (g:Nat) (h0:w.cell? ⟨g,0,none⟩=some (.int .i64 x.id)) (h1:w.cell? ⟨g,1,none⟩=some (.int .i64 x.n)) (h2:w.cell? ⟨g,2,none⟩=some (.int .i64 x.view)) (h4:w.cell? ⟨g,4,none⟩=some (.bool x.works)) (hv:0≤x.view) (hn:1≤x.n) (k:Nat) :
  Calls Tryz.prog 28 #[.pointer (some ⟨g,0,none⟩)] (w.drewN k) fun e w'=>e=.returned (.bool x.leads)∧∃ m,w'=(w.drewN k).drewN m :=
 (leads_calls x (w.drewN k) g h0 h1 h2 h4 hv hn).mono (fun _ _ ⟨a,b⟩=>⟨a,b.out⟩)
theorem ack_not (x:Nod) (m:S28) (A:Option Addr) (c:Nat) (w0 w:World) (base g:Nat) (ok:Nat→Prop) (hg:Good x) (hf:0≤m.f1) (hf2:m.f1 < x.n) (hl:x.leads=false) (h:Did w0 w base g ok x) :
  Calls Tryz.prog 46 #[.pointer (some ⟨g,0,none⟩),.agg #[.int .i64 m.f0,.int .i64 m.f1,.int .i64 m.f2,.int .i64 m.f3,.int .i64 m.f4,.int .i64 m.f5,.int .i64 m.f6,.slice A m.f7.length c]] w fun e w'=>e=.returned (.tuple #[])∧Did w0 w' base g ok x:=by
 have hu56:=Tryz.underlying56
 have hu26:=Tryz.underlying26
 have hu28:=Tryz.underlying28
 have HN:=Aside0.mk h
 have HG:=Aside0.mk hg
 have HD:=Aside0.mk (h.boxed (.cells #[.int .i64 m.f0,.int .i64 m.f1,.int .i64 m.f2,.int .i64 m.f3,.int .i64 m.f4,.int .i64 m.f5,.int .i64 m.f6,.slice A m.f7.length c] 28))
 have hlt:=h.1.lt
 obtain ⟨A6,c6,A7,c7,A8,c8,A9,c9,hb,-⟩:=HD.out.blk
 have HB:=Aside0.mk hb
 have hc1:(w.alloc (.cells #[.int .i64 m.f0,.int .i64 m.f1,.int .i64 m.f2,.int .i64 m.f3,.int .i64 m.f4,.int .i64 m.f5,.int .i64 m.f6,.slice A m.f7.length c] 28)).cell? ⟨g,1,none⟩=some (.int .i64 x.n):=blk_cell hb 1
 have hc2:(w.alloc (.cells #[.int .i64 m.f0,.int .i64 m.f1,.int .i64 m.f2,.int .i64 m.f3,.int .i64 m.f4,.int .i64 m.f5,.int .i64 m.f6,.slice A m.f7.length c] 28)).cell? ⟨g,2,none⟩=some (.int .i64 x.view):=blk_cell hb 2
 have hb1:(w.alloc (.cells #[.int .i64 m.f0,.int .i64 m.f1,.int .i64 m.f2,.int .i64 m.f3,.int .i64 m.f4,.int .i64 m.f5,.int .i64 m.f6,.slice A m.f7.length c] 28)).cell? ⟨w.heap.size,1,none⟩=some (.int .i64 m.f1):=blk_cell (x_alloc_new w _) 1
 have hb3:(w.alloc (.cells #[.int .i64 m.f0,.int .i64 m.f1,.int .i64 m.f2,.int .i64 m.f3,.int .i64 m.f4,.int .i64 m.f5,.int .i64 m.f6,.slice A m.f7.length c] 28)).cell? ⟨w.heap.size,3,none⟩=some (.int .i64 m.f3):=blk_cell (x_alloc_new w _) 3
 have hb6:(w.alloc (.cells #[.int .i64 m.f0,.int .i64 m.f1,.int .i64 m.f2,.int .i64 m.f3,.int .i64 m.f4,.int .i64 m.f5,.int .i64 m.f6,.slice A m.f7.length c] 28)).cell? ⟨w.heap.size,6,none⟩=some (.int .i64 m.f6):=blk_cell (x_alloc_new w _) 6
 have hc5:(w.alloc (.cells #[.int .i64 m.f0,.int .i64 m.f1,.int .i64 m.f2,.int .i64 m.f3,.int .i64 m.f4,.int .i64 m.f5,.int .i64 m.f6,.slice A m.f7.length c] 28)).cell? ⟨g,5,none⟩=some (.int .i64 x.commit):=blk_cell hb 5
 have hc6:(w.alloc (.cells #[.int .i64 m.f0,.int .i64 m.f1,.int .i64 m.f2,.int .i64 m.f3,.int .i64 m.f4,.int .i64 m.f5,.int .i64 m.f6,.slice A m.f7.length c] 28)).cell? ⟨g,6,none⟩=some (.slice A6 x.log.length c6):=blk_cell hb 6
 have hne1:g≠w.heap.size:=by have:g < w.heap.size:=hlt;omega
 have hne2:w.heap.size≠g:=hne1.symm
 have HLQ:=Aside0.mk (quiet_leads x (w.alloc (.cells #[.int .i64 m.f0,.int .i64 m.f1,.int .i64 m.f2,.int .i64 m.f3,.int .i64 m.f4,.int .i64 m.f5,.int .i64 m.f6,.slice A m.f7.length c] 28)) g (blk_cell hb 0) (blk_cell hb 1) (blk_cell hb 2) (blk_cell hb 4) hg.view hg.n1)
 rw [hl] at HLQ
 clear hb h hl hlt hg hf hf2
 go_enter Tryz.func46,Tryz.ntmps46
 go_wp2
 go_quiet ((go_at_call 28;exact Calls.quiet_of (HLQ.out _)))
 go_wp2
 refine bodyPost_ret (results_none rfl _ _ _) rfl ?_
 exact ⟨rfl,HN.out.unbox (HD.out.drewN _)⟩
theorem ack_later (x:Nod) (m:S28) (A:Option Addr) (c:Nat) (w0 w:World) (base g:Nat) (ok:Nat→Prop) (hg:Good x) (hf:0≤m.f1) (hf2:m.f1 < x.n) (hl:x.leads=true) (hv:m.f3 > x.view) (h:Did w0 w base g ok x) :
  Calls Tryz.prog 46 #[.pointer (some ⟨g,0,none⟩),.agg #[.int .i64 m.f0,.int .i64 m.f1,.int .i64 m.f2,.int .i64 m.f3,.int .i64 m.f4,.int .i64 m.f5,.int .i64 m.f6,.slice A m.f7.length c]] w fun e w'=>e=.returned (.tuple #[])∧Did w0 w' base g ok x:=by
 have hu56:=Tryz.underlying56
 have hu26:=Tryz.underlying26
 have hu28:=Tryz.underlying28
 have HN:=Aside0.mk h
 have HG:=Aside0.mk hg
 have HD:=Aside0.mk (h.boxed (.cells #[.int .i64 m.f0,.int .i64 m.f1,.int .i64 m.f2,.int .i64 m.f3,.int .i64 m.f4,.int .i64 m.f5,.int .i64 m.f6,.slice A m.f7.length c] 28))
 have hlt:=h.1.lt
 obtain ⟨A6,c6,A7,c7,A8,c8,A9,c9,hb,-⟩:=HD.out.blk
 have HB:=Aside0.mk hb
 have hc1:(w.alloc (.cells #[.int .i64 m.f0,.int .i64 m.f1,.int .i64 m.f2,.int .i64 m.f3,.int .i64 m.f4,.int .i64 m.f5,.int .i64 m.f6,.slice A m.f7.length c] 28)).cell? ⟨g,1,none⟩=some (.int .i64 x.n):=blk_cell hb 1
 have hc2:(w.alloc (.cells #[.int .i64 m.f0,.int .i64 m.f1,.int .i64 m.f2,.int .i64 m.f3,.int .i64 m.f4,.int .i64 m.f5,.int .i64 m.f6,.slice A m.f7.length c] 28)).cell? ⟨g,2,none⟩=some (.int .i64 x.view):=blk_cell hb 2
 have hb1:(w.alloc (.cells #[.int .i64 m.f0,.int .i64 m.f1,.int .i64 m.f2,.int .i64 m.f3,.int .i64 m.f4,.int .i64 m.f5,.int .i64 m.f6,.slice A m.f7.length c] 28)).cell? ⟨w.heap.size,1,none⟩=some (.int .i64 m.f1):=blk_cell (x_alloc_new w _) 1
 have hb3:(w.alloc (.cells #[.int .i64 m.f0,.int .i64 m.f1,.int .i64 m.f2,.int .i64 m.f3,.int .i64 m.f4,.int .i64 m.f5,.int .i64 m.f6,.slice A m.f7.length c] 28)).cell? ⟨w.heap.size,3,none⟩=some (.int .i64 m.f3):=blk_cell (x_alloc_new w _) 3
 have hb6:(w.alloc (.cells #[.int .i64 m.f0,.int .i64 m.f1,.int .i64 m.f2,.int .i64 m.f3,.int .i64 m.f4,.int .i64 m.f5,.int .i64 m.f6,.slice A m.f7.length c] 28)).cell? ⟨w.heap.size,6,none⟩=some (.int .i64 m.f6):=blk_cell (x_alloc_new w _) 6
 have hc5:(w.alloc (.cells #[.int .i64 m.f0,.int .i64 m.f1,.int .i64 m.f2,.int .i64 m.f3,.int .i64 m.f4,.int .i64 m.f5,.int .i64 m.f6,.slice A m.f7.length c] 28)).cell? ⟨g,5,none⟩=some (.int .i64 x.commit):=blk_cell hb 5
 have hc6:(w.alloc (.cells #[.int .i64 m.f0,.int .i64 m.f1,.int .i64 m.f2,.int .i64 m.f3,.int .i64 m.f4,.int .i64 m.f5,.int .i64 m.f6,.slice A m.f7.length c] 28)).cell? ⟨g,6,none⟩=some (.slice A6 x.log.length c6):=blk_cell hb 6
 have hne1:g≠w.heap.size:=by have:g < w.heap.size:=hlt;omega
 have hne2:w.heap.size≠g:=hne1.symm
 have HLQ:=Aside0.mk (quiet_leads x (w.alloc (.cells #[.int .i64 m.f0,.int .i64 m.f1,.int .i64 m.f2,.int .i64 m.f3,.int .i64 m.f4,.int .i64 m.f5,.int .i64 m.f6,.slice A m.f7.length c] 28)) g (blk_cell hb 0) (blk_cell hb 1) (blk_cell hb 2) (blk_cell hb 4) hg.view hg.n1)
 rw [hl] at HLQ
 have g1:decide (m.f3 > x.view)=true:=decide_eq_true hv
 have g2:decide (x.view < m.f3)=true:=decide_eq_true hv
 clear hb h hl hlt hg hf hf2 hv
 go_enter Tryz.func46,Tryz.ntmps46
 go_wp2
 go_quiet ((go_at_call 28;exact Calls.quiet_of (HLQ.out _)))
 go_wp2
 refine bodyPost_ret (results_none rfl _ _ _) rfl ?_
 exact ⟨rfl,HN.out.unbox (HD.out.drewN _)⟩
theorem ack_more (x:Nod) (m:S28) (A:Option Addr) (c:Nat) (w0 w:World) (base g:Nat) (ok:Nat→Prop) (hg:Good x) (hf:0≤m.f1) (hf2:m.f1 < x.n) (hl:x.leads=true) (hv:¬ m.f3 > x.view) (hcm :  (x.acked m).counts.commit > x.commit) (h:Did w0 w base g ok x) :
  Calls Tryz.prog 46 #[.pointer (some ⟨g,0,none⟩),.agg #[.int .i64 m.f0,.int .i64 m.f1,.int .i64 m.f2,.int .i64 m.f3,.int .i64 m.f4,.int .i64 m.f5,.int .i64 m.f6,.slice A m.f7.length c]] w fun e w'=>e=.returned (.tuple #[])∧Did w0 w' base g ok (x.acked m).counts.tell:=by
 have hu56:=Tryz.underlying56
 have hu26:=Tryz.underlying26
 have hu28:=Tryz.underlying28
 have HN:=Aside0.mk h
 have HG:=Aside0.mk hg
 have HD:=Aside0.mk (h.boxed (.cells #[.int .i64 m.f0,.int .i64 m.f1,.int .i64 m.f2,.int .i64 m.f3,.int .i64 m.f4,.int .i64 m.f5,.int .i64 m.f6,.slice A m.f7.length c] 28))
 have hlt:=h.1.lt
 obtain ⟨A6,c6,A7,c7,A8,c8,A9,c9,hb,-⟩:=HD.out.blk
 have HB:=Aside0.mk hb
 have hc1:(w.alloc (.cells #[.int .i64 m.f0,.int .i64 m.f1,.int .i64 m.f2,.int .i64 m.f3,.int .i64 m.f4,.int .i64 m.f5,.int .i64 m.f6,.slice A m.f7.length c] 28)).cell? ⟨g,1,none⟩=some (.int .i64 x.n):=blk_cell hb 1
 have hc2:(w.alloc (.cells #[.int .i64 m.f0,.int .i64 m.f1,.int .i64 m.f2,.int .i64 m.f3,.int .i64 m.f4,.int .i64 m.f5,.int .i64 m.f6,.slice A m.f7.length c] 28)).cell? ⟨g,2,none⟩=some (.int .i64 x.view):=blk_cell hb 2
 have hb1:(w.alloc (.cells #[.int .i64 m.f0,.int .i64 m.f1,.int .i64 m.f2,.int .i64 m.f3,.int .i64 m.f4,.int .i64 m.f5,.int .i64 m.f6,.slice A m.f7.length c] 28)).cell? ⟨w.heap.size,1,none⟩=some (.int .i64 m.f1):=blk_cell (x_alloc_new w _) 1
 have hb3:(w.alloc (.cells #[.int .i64 m.f0,.int .i64 m.f1,.int .i64 m.f2,.int .i64 m.f3,.int .i64 m.f4,.int .i64 m.f5,.int .i64 m.f6,.slice A m.f7.length c] 28)).cell? ⟨w.heap.size,3,none⟩=some (.int .i64 m.f3):=blk_cell (x_alloc_new w _) 3
 have hb6:(w.alloc (.cells #[.int .i64 m.f0,.int .i64 m.f1,.int .i64 m.f2,.int .i64 m.f3,.int .i64 m.f4,.int .i64 m.f5,.int .i64 m.f6,.slice A m.f7.length c] 28)).cell? ⟨w.heap.size,6,none⟩=some (.int .i64 m.f6):=blk_cell (x_alloc_new w _) 6
 have hc5:(w.alloc (.cells #[.int .i64 m.f0,.int .i64 m.f1,.int .i64 m.f2,.int .i64 m.f3,.int .i64 m.f4,.int .i64 m.f5,.int .i64 m.f6,.slice A m.f7.length c] 28)).cell? ⟨g,5,none⟩=some (.int .i64 x.commit):=blk_cell hb 5
 have hc6:(w.alloc (.cells #[.int .i64 m.f0,.int .i64 m.f1,.int .i64 m.f2,.int .i64 m.f3,.int .i64 m.f4,.int .i64 m.f5,.int .i64 m.f6,.slice A m.f7.length c] 28)).cell? ⟨g,6,none⟩=some (.slice A6 x.log.length c6):=blk_cell hb 6
 have hne1:g≠w.heap.size:=by have:g < w.heap.size:=hlt;omega
 have hne2:w.heap.size≠g:=hne1.symm
 have HLQ:=Aside0.mk (quiet_leads x (w.alloc (.cells #[.int .i64 m.f0,.int .i64 m.f1,.int .i64 m.f2,.int .i64 m.f3,.int .i64 m.f4,.int .i64 m.f5,.int .i64 m.f6,.slice A m.f7.length c] 28)) g (blk_cell hb 0) (blk_cell hb 1) (blk_cell hb 2) (blk_cell hb 4) hg.view hg.n1)
 rw [hl] at HLQ
 have HG2:=Aside0.mk (counts_good (acked_good hg m))
 have k1:decide ((x.acked m).counts.commit > x.commit)=true:=decide_eq_true hcm
 have k2:decide (x.commit < (x.acked m).counts.commit)=true:=decide_eq_true hcm
 clear hcm
 have g1:decide (m.f3 > x.view)=false:=decide_eq_false hv
 have g2:decide (x.view < m.f3)=false:=decide_eq_false hv
 have hN:=HD.out.1
 obtain ⟨v6,v7,v8,v9,P6,P7,P8,P9,hbb,-,hok,h6,h7,h8,h9,ho,a6,a7,a8⟩:=hN
 have hlen:0 < x.acks.length:=by rw [hg.acks];have:=hg.n1;omega
 obtain ⟨ga,d7,rfl,gb7,gl7,cl7,hg7⟩:=Kd.R_form h7 hlen
 have hc7:(w.alloc (.cells #[.int .i64 m.f0,.int .i64 m.f1,.int .i64 m.f2,.int .i64 m.f3,.int .i64 m.f4,.int .i64 m.f5,.int .i64 m.f6,.slice A m.f7.length c] 28)).cell? ⟨g,7,none⟩=some (.slice (some ⟨ga,0,none⟩) x.acks.length d7):=blk_cell hbb 7
 have HSA:=Aside0.mk (fun k=>(show Did _ (((w.alloc (.cells #[.int .i64 m.f0,.int .i64 m.f1,.int .i64 m.f2,.int .i64 m.f3,.int .i64 m.f4,.int .i64 m.f5,.int .i64 m.f6,.slice A m.f7.length c] 28)).drewN k).setCell ⟨ga,m.f1.toNat,none⟩ (.int .i64 (max (rdOf 0 x.acks m.f1) (min m.f6 (x.log.length:Int))))) base g _ (x.acked m) from (HD.out.drewN k).set_ack ga x.acks.length d7 (show ((w.alloc (.cells #[.int .i64 m.f0,.int .i64 m.f1,.int .i64 m.f2,.int .i64 m.f3,.int .i64 m.f4,.int .i64 m.f5,.int .i64 m.f6,.slice A m.f7.length c] 28)).drewN k).cell? ⟨g,7,none⟩=_ from hc7) m.f1 _))
 have q1:m.f1 < (x.acks.length:Int):=by rw [hg.acks];have:=hg.n1;omega
 obtain ⟨hx,hfz⟩:=Kd.R_celln (0:Int) h7 m.f1 hf q1
 have p1:=eq_true hf
 replace q1:=eq_true q1
 have hga1:ga≠g:=(ho ga (.inr (.inl (h7.1 ga rfl)))).2
 have hga2:=hga1.symm
 have hga3:ga≠w.heap.size:=by
  have h3:=(ho ga (.inr (.inl (h7.1 ga rfl)))).1
  intro e
  rcases h3 with h3 | h3
  ·have:=h3.2;omega
  ·have h4:((w.alloc (.cells #[.int .i64 m.f0,.int .i64 m.f1,.int .i64 m.f2,.int .i64 m.f3,.int .i64 m.f4,.int .i64 m.f5,.int .i64 m.f6,.slice A m.f7.length c] 28))).heap.size=w.heap.size+1:=by simp
   omega
 clear hb hbb h hl hlt hg hf hf2 hv h6 h7 h8 h9 ho a6 a7 a8 hok gb7 gl7 cl7 hg7
 go_enter Tryz.func46,Tryz.ntmps46
 go_wp2
 go_quiet ((go_at_call 28;exact Calls.quiet_of (HLQ.out _)))
 go_wp2
 go_region
 go_wp2_with (first | (go_at_call 29;refine (counts_did (x.acked m) (w.alloc (.cells #[.int .i64 m.f0,.int .i64 m.f1,.int .i64 m.f2,.int .i64 m.f3,.int .i64 m.f4,.int .i64 m.f5,.int .i64 m.f6,.slice A m.f7.length c] 28)) _ base g (Okb w0 w ok) (acked_good HG.out m) ?hA).mono ?_;(case hA=>exact HSA.out _);rintro e w5 ⟨rfl,h5⟩;have HD5:=Aside0.mk h5;obtain ⟨E6,f6,E7,f7,E8,f8,E9,f9,hbk,-⟩:=h5.blk;have hs5:w5.cell? ⟨g,5,none⟩=some (.int .i64 (x.acked m).counts.commit):=blk_cell hbk 5;clear h5 hbk) | (go_at_call 30;refine (tell_did (x.acked m).counts (w.alloc (.cells #[.int .i64 m.f0,.int .i64 m.f1,.int .i64 m.f2,.int .i64 m.f3,.int .i64 m.f4,.int .i64 m.f5,.int .i64 m.f6,.slice A m.f7.length c] 28)) _ base g (Okb w0 w ok) (by have:=HG2.out.n1;omega) HG2.out.n2 HG2.out.told (by have:=HG2.out.log;omega) HD5.out).mono ?_;rintro e w6 ⟨rfl,h6⟩;have HD6:=Aside0.mk h6;clear h6))
 all_goals
  go_end0
  exact ⟨rfl,HN.out.unbox HD6.out⟩
theorem ack_same (x:Nod) (m:S28) (A:Option Addr) (c:Nat) (w0 w:World) (base g:Nat) (ok:Nat→Prop) (hg:Good x) (hf:0≤m.f1) (hf2:m.f1 < x.n) (hl:x.leads=true) (hv:¬ m.f3 > x.view) (hcm:¬ (x.acked m).counts.commit > x.commit) (h:Did w0 w base g ok x) :
  Calls Tryz.prog 46 #[.pointer (some ⟨g,0,none⟩),.agg #[.int .i64 m.f0,.int .i64 m.f1,.int .i64 m.f2,.int .i64 m.f3,.int .i64 m.f4,.int .i64 m.f5,.int .i64 m.f6,.slice A m.f7.length c]] w fun e w'=>e=.returned (.tuple #[])∧Did w0 w' base g ok (x.acked m).counts:=by
 have hu56:=Tryz.underlying56
 have hu26:=Tryz.underlying26
 have hu28:=Tryz.underlying28
 have HN:=Aside0.mk h
 have HG:=Aside0.mk hg
 have HD:=Aside0.mk (h.boxed (.cells #[.int .i64 m.f0,.int .i64 m.f1,.int .i64 m.f2,.int .i64 m.f3,.int .i64 m.f4,.int .i64 m.f5,.int .i64 m.f6,.slice A m.f7.length c] 28))
 have hlt:=h.1.lt
 obtain ⟨A6,c6,A7,c7,A8,c8,A9,c9,hb,-⟩:=HD.out.blk
 have HB:=Aside0.mk hb
 have hc1:(w.alloc (.cells #[.int .i64 m.f0,.int .i64 m.f1,.int .i64 m.f2,.int .i64 m.f3,.int .i64 m.f4,.int .i64 m.f5,.int .i64 m.f6,.slice A m.f7.length c] 28)).cell? ⟨g,1,none⟩=some (.int .i64 x.n):=blk_cell hb 1
 have hc2:(w.alloc (.cells #[.int .i64 m.f0,.int .i64 m.f1,.int .i64 m.f2,.int .i64 m.f3,.int .i64 m.f4,.int .i64 m.f5,.int .i64 m.f6,.slice A m.f7.length c] 28)).cell? ⟨g,2,none⟩=some (.int .i64 x.view):=blk_cell hb 2
 have hb1:(w.alloc (.cells #[.int .i64 m.f0,.int .i64 m.f1,.int .i64 m.f2,.int .i64 m.f3,.int .i64 m.f4,.int .i64 m.f5,.int .i64 m.f6,.slice A m.f7.length c] 28)).cell? ⟨w.heap.size,1,none⟩=some (.int .i64 m.f1):=blk_cell (x_alloc_new w _) 1
 have hb3:(w.alloc (.cells #[.int .i64 m.f0,.int .i64 m.f1,.int .i64 m.f2,.int .i64 m.f3,.int .i64 m.f4,.int .i64 m.f5,.int .i64 m.f6,.slice A m.f7.length c] 28)).cell? ⟨w.heap.size,3,none⟩=some (.int .i64 m.f3):=blk_cell (x_alloc_new w _) 3
 have hb6:(w.alloc (.cells #[.int .i64 m.f0,.int .i64 m.f1,.int .i64 m.f2,.int .i64 m.f3,.int .i64 m.f4,.int .i64 m.f5,.int .i64 m.f6,.slice A m.f7.length c] 28)).cell? ⟨w.heap.size,6,none⟩=some (.int .i64 m.f6):=blk_cell (x_alloc_new w _) 6
 have hc5:(w.alloc (.cells #[.int .i64 m.f0,.int .i64 m.f1,.int .i64 m.f2,.int .i64 m.f3,.int .i64 m.f4,.int .i64 m.f5,.int .i64 m.f6,.slice A m.f7.length c] 28)).cell? ⟨g,5,none⟩=some (.int .i64 x.commit):=blk_cell hb 5
 have hc6:(w.alloc (.cells #[.int .i64 m.f0,.int .i64 m.f1,.int .i64 m.f2,.int .i64 m.f3,.int .i64 m.f4,.int .i64 m.f5,.int .i64 m.f6,.slice A m.f7.length c] 28)).cell? ⟨g,6,none⟩=some (.slice A6 x.log.length c6):=blk_cell hb 6
 have hne1:g≠w.heap.size:=by have:g < w.heap.size:=hlt;omega
 have hne2:w.heap.size≠g:=hne1.symm
 have HLQ:=Aside0.mk (quiet_leads x (w.alloc (.cells #[.int .i64 m.f0,.int .i64 m.f1,.int .i64 m.f2,.int .i64 m.f3,.int .i64 m.f4,.int .i64 m.f5,.int .i64 m.f6,.slice A m.f7.length c] 28)) g (blk_cell hb 0) (blk_cell hb 1) (blk_cell hb 2) (blk_cell hb 4) hg.view hg.n1)
 rw [hl] at HLQ
 have HG2:=Aside0.mk (counts_good (acked_good hg m))
 have k1:decide ((x.acked m).counts.commit > x.commit)=false:=decide_eq_false hcm
 have k2:decide (x.commit < (x.acked m).counts.commit)=false:=decide_eq_false hcm
 clear hcm
 have g1:decide (m.f3 > x.view)=false:=decide_eq_false hv
 have g2:decide (x.view < m.f3)=false:=decide_eq_false hv
 have hN:=HD.out.1
 obtain ⟨v6,v7,v8,v9,P6,P7,P8,P9,hbb,-,hok,h6,h7,h8,h9,ho,a6,a7,a8⟩:=hN
 have hlen:0 < x.acks.length:=by rw [hg.acks];have:=hg.n1;omega
 obtain ⟨ga,d7,rfl,gb7,gl7,cl7,hg7⟩:=Kd.R_form h7 hlen
 have hc7:(w.alloc (.cells #[.int .i64 m.f0,.int .i64 m.f1,.int .i64 m.f2,.int .i64 m.f3,.int .i64 m.f4,.int .i64 m.f5,.int .i64 m.f6,.slice A m.f7.length c] 28)).cell? ⟨g,7,none⟩=some (.slice (some ⟨ga,0,none⟩) x.acks.length d7):=blk_cell hbb 7
 have HSA:=Aside0.mk (fun k=>(show Did _ (((w.alloc (.cells #[.int .i64 m.f0,.int .i64 m.f1,.int .i64 m.f2,.int .i64 m.f3,.int .i64 m.f4,.int .i64 m.f5,.int .i64 m.f6,.slice A m.f7.length c] 28)).drewN k).setCell ⟨ga,m.f1.toNat,none⟩ (.int .i64 (max (rdOf 0 x.acks m.f1) (min m.f6 (x.log.length:Int))))) base g _ (x.acked m) from (HD.out.drewN k).set_ack ga x.acks.length d7 (show ((w.alloc (.cells #[.int .i64 m.f0,.int .i64 m.f1,.int .i64 m.f2,.int .i64 m.f3,.int .i64 m.f4,.int .i64 m.f5,.int .i64 m.f6,.slice A m.f7.length c] 28)).drewN k).cell? ⟨g,7,none⟩=_ from hc7) m.f1 _))
 have q1:m.f1 < (x.acks.length:Int):=by rw [hg.acks];have:=hg.n1;omega
 obtain ⟨hx,hfz⟩:=Kd.R_celln (0:Int) h7 m.f1 hf q1
 have p1:=eq_true hf
 replace q1:=eq_true q1
 have hga1:ga≠g:=(ho ga (.inr (.inl (h7.1 ga rfl)))).2
 have hga2:=hga1.symm
 have hga3:ga≠w.heap.size:=by
  have h3:=(ho ga (.inr (.inl (h7.1 ga rfl)))).1
  intro e
  rcases h3 with h3 | h3
  ·have:=h3.2;omega
  ·have h4:((w.alloc (.cells #[.int .i64 m.f0,.int .i64 m.f1,.int .i64 m.f2,.int .i64 m.f3,.int .i64 m.f4,.int .i64 m.f5,.int .i64 m.f6,.slice A m.f7.length c] 28))).heap.size=w.heap.size+1:=by simp
   omega
 clear hb hbb h hl hlt hg hf hf2 hv h6 h7 h8 h9 ho a6 a7 a8 hok gb7 gl7 cl7 hg7
 go_enter Tryz.func46,Tryz.ntmps46
 go_wp2
 go_quiet ((go_at_call 28;exact Calls.quiet_of (HLQ.out _)))
 go_wp2
 go_region
 go_wp2_with (first | (go_at_call 29;refine (counts_did (x.acked m) (w.alloc (.cells #[.int .i64 m.f0,.int .i64 m.f1,.int .i64 m.f2,.int .i64 m.f3,.int .i64 m.f4,.int .i64 m.f5,.int .i64 m.f6,.slice A m.f7.length c] 28)) _ base g (Okb w0 w ok) (acked_good HG.out m) ?hA).mono ?_;(case hA=>exact HSA.out _);rintro e w5 ⟨rfl,h5⟩;have HD5:=Aside0.mk h5;obtain ⟨E6,f6,E7,f7,E8,f8,E9,f9,hbk,-⟩:=h5.blk;have hs5:w5.cell? ⟨g,5,none⟩=some (.int .i64 (x.acked m).counts.commit):=blk_cell hbk 5;clear h5 hbk))
 all_goals
  go_end0
  exact ⟨rfl,HN.out.unbox HD5.out⟩
theorem ack_did (x:Nod) (m:S28) (A:Option Addr) (c:Nat) (w0 w:World) (base g:Nat) (ok:Nat→Prop) (hg:Good x) (hf:0≤m.f1) (hf2:m.f1 < x.n) (h:Did w0 w base g ok x) :
  Calls Tryz.prog 46 #[.pointer (some ⟨g,0,none⟩),.agg #[.int .i64 m.f0,.int .i64 m.f1,.int .i64 m.f2,.int .i64 m.f3,.int .i64 m.f4,.int .i64 m.f5,.int .i64 m.f6,.slice A m.f7.length c]] w fun e w'=>e=.returned (.tuple #[])∧Did w0 w' base g ok (x.ack m):=by
 unfold Nod.ack
 cases hl:x.leads with
 | false =>
  rw [if_neg (by simp)]
  exact ack_not x m A c w0 w base g ok hg hf hf2 hl h
 | true =>
  by_cases hv:m.f3 > x.view
  ·rw [if_neg (by omega)]
   exact ack_later x m A c w0 w base g ok hg hf hf2 hl hv h
  ·rw [if_pos ⟨rfl,by omega⟩]
   by_cases hcm:(x.acked m).counts.commit > x.commit
   ·rw [if_pos hcm]
    exact ack_more x m A c w0 w base g ok hg hf hf2 hl hv hcm h
   ·rw [if_neg hcm]
    exact ack_same x m A c w0 w base g ok hg hf hf2 hl hv hcm h
theorem vote_works (x:Nod) (m:S28) (A:Option Addr) (c:Nat) (w0 w:World) (base g:Nat) (ok:Nat→Prop) (hg:Good x) (hk:m.f0=3) (hf:0≤m.f1) (hf2:m.f1 < x.n) (hmv:0≤m.f3) (hvl:x.votes.length≤900) (hc:m.f7.length≤c) (hl:m.f7.length≤1000) (hM:∀ W,Below base w0 W→Kd.C Kd.string W A m.f7.length m.f7) (hp:x.prim m.f3=true) (hv:¬ m.f3 > x.view) (hw:x.works=true) (h:Did w0 w base g ok x) :
  Calls Tryz.prog 47 #[.pointer (some ⟨g,0,none⟩),.agg #[m.f0,m.f1,m.f2,m.f3,m.f4,m.f5,m.f6,.slice A m.f7.length c]] w fun e w'=>e=.returned (.tuple #[])∧Did w0 w' base g ok (x.say (x.prep m.f1)):=by
 have hu56:=Tryz.underlying56
 have hu26:=Tryz.underlying26
 have hu28:=Tryz.underlying28
 have hu63:=Tryz.underlying63
 have HN:=sd h
 have HG:=sd hg
 have HD:=sd (h.boxed (.cells #[m.f0,m.f1,m.f2,m.f3,m.f4,m.f5,m.f6,.slice A m.f7.length c] 28))
 have HM:=sd hM
 have HCC:=sd hc
 have HL:=sd hl
 have HK:=sd hk
 have HF:=sd (And.intro hf hf2)
 have HMV:=sd hmv
 have HVL:=sd hvl
 have hlt:=h.1.lt
 obtain ⟨A6,c6,A7,c7,A8,c8,A9,c9,hb,-⟩:=HD.out.blk
 have HB:=sd hb
 have hc2:(w.alloc (.cells #[m.f0,m.f1,m.f2,m.f3,m.f4,m.f5,m.f6,.slice A m.f7.length c] 28)).cell? ⟨g,2,none⟩=some (.int .i64 x.view):=blk_cell hb 2
 have hc4:(w.alloc (.cells #[m.f0,m.f1,m.f2,m.f3,m.f4,m.f5,m.f6,.slice A m.f7.length c] 28)).cell? ⟨g,4,none⟩=some (.bool x.works):=blk_cell hb 4
 have hb3:(w.alloc (.cells #[m.f0,m.f1,m.f2,m.f3,m.f4,m.f5,m.f6,.slice A m.f7.length c] 28)).cell? ⟨w.heap.size,3,none⟩=some (.int .i64 m.f3):=blk_cell (x_alloc_new w _) 3
 have hne1:g≠w.heap.size:=by have:g < w.heap.size:=hlt;omega
 have hne2:w.heap.size≠g:=hne1.symm
 have HP:=sd (primary_calls x m.f3 (w.alloc (.cells #[m.f0,m.f1,m.f2,m.f3,m.f4,m.f5,m.f6,.slice A m.f7.length c] 28)) g (blk_cell hb 0) (blk_cell hb 1) hmv hg.n1)
 rw [hp] at HP
 rw [hw] at hc4
 have g1:decide (m.f3 > x.view)=false:=decide_eq_false hv
 have g2:decide (x.view < m.f3)=false:=decide_eq_false hv
 clear hp hv hw
 clear hb h hlt hg hk hf hf2 hmv hvl hc hl hM
 go_enter Tryz.func47,Tryz.ntmps47
 go_wp2_with ((go_at_call 68;refine HP.out.mono ?_;rintro e w' ⟨rfl,⟨nd,rfl⟩⟩))
 go_region
 go_wp2
 have HD5:=sd (HD.out.drewN (nd+1))
 clear hc2 hc4 hb3
 generalize hW5:(w.alloc (.cells #[m.f0,m.f1,m.f2,m.f3,m.f4,m.f5,m.f6,.slice A m.f7.length c] 28)).drewN (nd+1)=w5 at *
 clear hW5
 have HBX5:=sd HD5.out.box
 obtain ⟨E6,f6,E7,f7,E8,f8,E9,f9,hbk,he6,hC6,-⟩:=HD5.out.blk
 have HBK5:=sd hbk
 have HC6:=sd hC6
 have HE6:=sd he6
 have hs0:w5.cell? ⟨g,0,none⟩=some (.int .i64 x.id):=blk_cell hbk 0
 have hs2:w5.cell? ⟨g,2,none⟩=some (.int .i64 x.view):=blk_cell hbk 2
 have hs5:w5.cell? ⟨g,5,none⟩=some (.int .i64 x.commit):=blk_cell hbk 5
 have hs6:w5.cell? ⟨g,6,none⟩=some (.slice E6 x.log.length f6):=blk_cell hbk 6
 have hs9:w5.cell? ⟨g,9,none⟩=some (.slice E9 x.told.length f9):=blk_cell hbk 9
 have hx1:w5.cell? ⟨w.heap.size,1,none⟩=some (.int .i64 m.f1):=blk_cell HBX5.out 1
 have HC9:=sd (show w5.drew.cell? ⟨g,9,none⟩=_ from hs9)
 have HTI:=sd (show x.told.length≤100000 by have:=HG.out.told;omega)
 have HBKD:=sd (show w5.drew.heap[g]?=some _ from hbk)
 have HBXD:=sd (show w5.drew.heap[w.heap.size]?=some _ from HBX5.out)
 have HNE:=sd hne1
 have HPR:=sd (prepare_of x.id m.f1 x.view x.commit x.log (by have:=HG.out.log;omega))
 clear hbk hC6 he6
 rw [ldTold_eq 31]
 go_region_held3 (fun W=>W.cell? ⟨g,0,none⟩=some (.int .i64 x.id)∧W.cell? ⟨g,2,none⟩=some (.int .i64 x.view)∧W.cell? ⟨g,5,none⟩=some (.int .i64 x.commit)∧W.cell? ⟨g,6,none⟩=some (.slice E6 x.log.length f6)∧W.cell? ⟨w.heap.size,1,none⟩=some (.int .i64 m.f1))
  (first | exact ⟨hs0,hs2,hs5,hs6,hx1⟩ | exact ⟨blk_cell HBK8.out 0,blk_cell HBK8.out 2,blk_cell HBK8.out 5,blk_cell HBK8.out 6,blk_cell HBX8.out 1⟩ | exact ⟨blk_cell (blk_alloc HBK8.out _) 0,blk_cell (blk_alloc HBK8.out _) 2,blk_cell (blk_alloc HBK8.out _) 5,blk_cell (blk_alloc HBK8.out _) 6,blk_cell (blk_alloc HBX8.out _) 1⟩ | exact ⟨blk_cell HBK4.out 0,blk_cell HBK4.out 2,blk_cell HBK4.out 5,blk_cell HBK4.out 6,blk_cell HBX4.out 1⟩ | exact ⟨blk_cell HBKZ.out 0,blk_cell HBKZ.out 2,blk_cell HBKZ.out 5,blk_cell HBKZ.out 6,blk_cell HBXZ.out 1⟩)
  (first | (refine x_step_call rfl Tryz.func70 (by kernel_rfl) rfl #[x.id,m.f1,x.view,x.commit,.slice E6 x.log.length f6] rfl (by simp [Act.eval,Act.put]) ?_;refine (msg_Prepare.calls x.id m.f1 x.view x.commit E6 f6 x.log 1 x.id m.f1 x.view 0 x.commit 0 x.log w5.drew (Kd.C_drew HC6.out) HE6.out HPR.out).mono ?_;rintro e w8 ⟨v7,rfl,hR,hb8⟩;have HB8:=sd hb8;obtain ⟨AR,cR,eR⟩:=Kd.R_slice hR;subst eR;have HR:=sd hR;have HBK8:=sd ((hb8.block g (blk_lt HBKD.out)).trans HBKD.out);have HBX8:=sd ((hb8.block w.heap.size (blk_lt HBXD.out)).trans HBXD.out);have hs9':∀ o,(w8.alloc o).cell? ⟨g,9,none⟩=some (.slice E9 x.told.length f9):=fun o=>blk_cell (blk_alloc HBK8.out o) 9;have hs9'':w8.cell? ⟨g,9,none⟩=some (.slice E9 x.told.length f9):=blk_cell HBK8.out 9;clear hb8 hR;refine ⟨_,rfl,?_⟩) | (refine say_step (x.prep m.f1) E9 f9 AR cR (HD5.out.drew) HB8.out (HC9.out) HR.out HTI.out rfl (.tmp 32) (.tmp 56) rfl rfl rfl ?_;intro v1 w9 hd9 hg9 hv9;obtain ⟨A1,c1,rfl⟩:=hv9;have HD9:=sd hd9;have HBK4:=sd (hg9.trans HBKD.out);have HBX4:=sd ((blk_far_inv (p:=⟨g,9,none⟩) hd9.box HNE.out.symm));have HBXZ:=sd hd9.box;have HBKZ:=sd (blk_put (cs':=x.cells (.slice E6 x.log.length f6) (.slice E7 x.acks.length f7) (.slice E8 x.votes.length f8) (.slice A1 (x.say (x.prep m.f1)).told.length c1)) HBK4.out 9 (.slice A1 (x.say (x.prep m.f1)).told.length c1) rfl);have hr9:w9.cell? ⟨g,9,none⟩=some (.slice E9 x.told.length f9):=blk_cell HBK4.out 9;have hf9:w9.frozen? ⟨g,9,none⟩=false:=blk_frozen HBK4.out 9;clear hd9 hg9))
 all_goals
  go_wp2
  refine bodyPost_ret (results_none rfl _ _ _) rfl ?_
  exact ⟨rfl,HN.out.unbox HD9.out⟩
end Go.Proofs.YtfpfpckocemmdaaGreat.P
