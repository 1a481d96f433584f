/- Part 11 of the walk. -/
import Derived.Test.YtfpfpckocemmdaaGreatCDoes06
import Derived.Test.YtfpfpckocemmdaaGreatCDoes10
set_option linter.unusedVariables false
set_option linter.unusedSimpArgs false
set_option maxHeartbeats 8000000
set_option maxRecDepth 100000
namespace Go.Proofs.YtfpfpckocemmdaaGreat.P
open Go.RowKit Go.Proofs.YtfpfpckocemmdaaGreatW.PrintWords Go.Proofs.YtfpfpckocemmdaaGreatW.PrintLast Go.Proofs.YtfpfpckocemmdaaGreatW.PrintMore
def Nod.prim (x:Nod) (view:Int):Bool:=view % x.n==x.id
def Nod.leads (x:Nod):Bool:=x.works && x.prim x.view
theorem primary_of (view n:Int) (hv:0≤view) (hn:1≤n):quorum_Primary.f view n=some (view % n,true):=by
 unfold quorum_Primary.f
 rw [if_neg (by omega),if_neg (by omega),if_neg (by omega),Int.tmod_eq_emod_of_nonneg hv]
theorem primary_calls (x:Nod) (view:Int) (w:World) (g:Nat) (h0:w.cell? ⟨g,0,none⟩=some (.int .i64 x.id)) (h1:w.cell? ⟨g,1,none⟩=some (.int .i64 x.n)) (hv:0≤view) (hn:1≤x.n) :
  Calls Tryz.prog 68 #[.pointer (some ⟨g,0,none⟩),view] w fun e w'=>e=.returned (.bool (x.prim view))∧Drawn0 w w':=by
 have hu56:=Tryz.underlying56
 have hu26:=Tryz.underlying26
 have HP:=sd (primary_of view x.n hv hn)
 have HE:=sd (show x.prim view=(view % x.n==x.id) from rfl)
 clear hv hn
 generalize hp:view % x.n=p at *
 go_enter Tryz.func68,Tryz.ntmps68
 go_wp2_with ((go_at_call 36;refine (quorum_Primary.calls view x.n p true _ HP.out).mono ?_;rintro e w' ⟨rfl,⟨nd,rfl⟩⟩))
 go_ret
 exact ⟨by rw [HE.out];rfl,by repeat (first | exact Drawn0.refl _ | apply Drawn0.step)⟩
theorem leads_calls (x:Nod) (w:World) (g:Nat) (h0:w.cell? ⟨g,0,none⟩=some (.int .i64 x.id)) (h1:w.cell? ⟨g,1,none⟩=some (.int .i64 x.n)) (h2:w.cell? ⟨g,2,none⟩=some (.int .i64 x.view)) (h4:w.cell? ⟨g,4,none⟩=some (.bool x.works)) (hv:0≤x.view) (hn:1≤x.n) :
  Calls Tryz.prog 28 #[.pointer (some ⟨g,0,none⟩)] w fun e w'=>e=.returned x.leads∧Drawn0 w w':=by
 have hu56:=Tryz.underlying56
 have hu26:=Tryz.underlying26
 have HP:=sd (primary_calls x x.view w g h0 h1 hv hn)
 have HE:=sd (show x.leads=(x.works && x.prim x.view) from rfl)
 clear hv hn
 generalize x.prim x.view=p at *
 cases hw:x.works with
 | false =>
  rw [hw] at h4 HE
  go_enter Tryz.func28,Tryz.ntmps28
  go_wp2
  go_ret
  exact ⟨by rw [HE.out];rfl,by repeat ((exact Drawn0.refl _))⟩
 | true =>
  rw [hw] at h4 HE
  go_enter Tryz.func28,Tryz.ntmps28
  go_wp2_with ((go_at_call 68;refine HP.out.mono ?_;rintro e w' ⟨rfl,⟨nd,rfl⟩⟩))
  go_ret
  exact ⟨by rw [HE.out];rfl,by repeat (first | exact Drawn0.refl _ | apply Drawn0.step)⟩
theorem x_step_call {P:Program} {ops:Array Oper} {o:Oper} {a:Act} {w:World} {K:Act→World→Prop} {Q:Exit→Act→World→Prop} {E:Prop} (hg:o.guard=none) {f:FuncId} {fn:Func} {xs:Array Operand} {ts:Array TypeId}
  (hf:P.funcs[f]?=some fn) (hname:(fn.name== "runtime.NumGoroutine")=false) (hb:fn.body.isSome=true) (args:Array Value)
  (hop:o.op=.call { callee:=.value (.func f),args:=xs,argTypes:=ts }) (hargs:xs.map a.eval=args)
  (h:Calls P f args w fun e w'=>∃ v,e=.returned v∧K (a.put o.dst v) w'):if Region.wanted o (yielded ops a.tmps)=true then Oper.wp P o a w K Q else E:=by
 have hw:Region.wanted o (yielded ops a.tmps)=true:=by simp [Region.wanted,hg]
 rw [if_pos hw]
 have he:=enters_ hf hname hb args w
 have hrun:(execOp a.eval o).run P w=.ok (.enter f args) w:=by
  unfold execOp
  simp [hop,resolve,Deferred.ofValue,invoke,Act.eval,hargs,he]
 unfold Oper.wp
 rw [hrun,Oper.upon_enter]
 refine h.mono fun e w'' hh=>?_
 obtain ⟨v,rfl,hk⟩:=hh
 exact hk
theorem Nd.set_commit {w:World} {base g:Nat} {ok:Nat→Prop} {x:Nod} (h:Nd w base g ok x) (v:Int):Nd (w.setCell ⟨g,5,none⟩ v) base g ok { x with commit:=v }:=by
 obtain ⟨v6,v7,v8,v9,P6,P7,P8,P9,hb,hg,hok,h6,h7,h8,h9,ho,a6,a7,a8⟩:=h
 exact ⟨v6,v7,v8,v9,P6,P7,P8,P9,blk_put (cs':=Nod.cells { x with commit:=v } v6 v7 v8 v9) hb 5 _ rfl,hg,hok,Kd.R_far h6 (fun k hk=>(ho k (.inl hk)).2) _,Kd.R_far h7 (fun k hk=>(ho k (.inr (.inl hk))).2) _,Kd.S_far h8 (fun k hk=>(ho k (.inr (.inr (.inl hk)))).2) _,Kd.S_far h9 (fun k hk=>(ho k (.inr (.inr (.inr hk)))).2) _,ho,a6,a7,a8⟩
theorem Nd.set_ack {w:World} {base g:Nat} {ok:Nat→Prop} {x:Nod} (h:Nd w base g ok x) (ga n c7:Nat) (hc:w.cell? ⟨g,7,none⟩=some (.slice (some ⟨ga,0,none⟩) n c7)) (i y:Int):Nd (w.setCell ⟨ga,i.toNat,none⟩ y) base g ok { x with acks:=x.acks.set i.toNat y }:=by
 obtain ⟨v6,v7,v8,v9,P6,P7,P8,P9,hb,hg,hok,h6,h7,h8,h9,ho,a6,a7,a8⟩:=h
 have e7:v7=.slice (some ⟨ga,0,none⟩) n c7:=by
  have h1:w.cell? ⟨g,7,none⟩=some v7:=blk_cell hb 7
  rw [h1] at hc
  exact Option.some.inj hc
 subst e7
 have hP:P7 ga:=h7.1 ga rfl
 have hne:g≠ga:=fun e=>(ho ga (.inr (.inl hP))).2 e.symm
 exact ⟨v6,_,v8,v9,P6,P7,P8,P9,blk_far hb (p:=⟨ga,i.toNat,none⟩) hne _,hg,hok,Kd.R_far h6 (fun k hk e=>(a6 k hk).1 (by rw [show k=ga from e];exact hP)) _,(Kd.R_putg h7 i y).1,Kd.S_far h8 (fun k hk e=>(a7 ga hP).1 (by rw [← show k=ga from e];exact hk)) _,Kd.S_far h9 (fun k hk e=>(a7 ga hP).2 (by rw [← show k=ga from e];exact hk)) _,ho,a6,a7,a8⟩
def Nod.count (x:Nod) (c:Int):Nod:=if x.leads then { x with acks:=x.acks.set x.id.toNat (x.log.length:Int),commit:=max x.commit c } else x
theorem count_calls (x:Nod) (w:World) (base g:Nat) (ok:Nat→Prop) (c:Int) (hid:0≤x.id) (hid2:x.id < (x.acks.length:Int)) (hv:0≤x.view) (hn:1≤x.n) (hc:quorum_Commit.f (x.acks.set x.id.toNat (x.log.length:Int))=some c) (hbase:base≤w.heap.size) (h:Nd w base g ok x) :
  Calls Tryz.prog 29 #[.pointer (some ⟨g,0,none⟩)] w fun e w'=>e=.returned (.tuple #[])∧Nd w' base g (fun k=>ok k∨w.heap.size≤k) (x.count c)∧Kept w w' ok∧Below base w w':=by
 have hu56:=Tryz.underlying56
 have hu26:=Tryz.underlying26
 have HN:=sd h
 have hlt:=h.lt
 have hge:=h.ge
 obtain ⟨v6,v7,v8,v9,P6,P7,P8,P9,hb,-,hok,h6,h7,h8,h9,ho,a6,a7,a8⟩:=h.bound
 clear h
 have hL:=sd (leads_calls x w g (blk_cell hb 0) (blk_cell hb 1) (blk_cell hb 2) (blk_cell hb 4) hv hn)
 by_cases hle:x.leads=true
 ·obtain ⟨ga,c7,rfl,gb7,gl7,cl7,hg7⟩:=Kd.R_form h7 (by omega)
  obtain ⟨A6,c6,rfl⟩:=Kd.R_slice h6
  have hc0:w.cell? ⟨g,0,none⟩=some (.int .i64 x.id):=blk_cell hb 0
  have hc6:w.cell? ⟨g,6,none⟩=some (.slice A6 x.log.length c6):=blk_cell hb 6
  have hc7:w.cell? ⟨g,7,none⟩=some (.slice (some ⟨ga,0,none⟩) x.acks.length c7):=blk_cell hb 7
  obtain ⟨hx,hf⟩:=Kd.R_celln (0:Int) h7 x.id hid hid2
  have HP:=sd (Kd.R_putg h7 x.id (x.log.length:Int))
  have p1:=eq_true hid
  have q1:=eq_true hid2
  have HCT:=sd (show x.count c={ x with acks:=x.acks.set x.id.toNat (x.log.length:Int),commit:=max x.commit c } by unfold Nod.count;rw [if_pos hle])
  have HOK:=sd hok.1
  rw [hle] at hL
  have HO:=sd ho
  have HBK:=sd hb
  have HCC:=sd hc
  have H6:=sd h6
  have HR7:=sd h7
  have H8:=sd h8
  have H9:=sd h9
  clear hb h6 h7 h8 h9 ho a6 a7 a8 hok hc hle cl7 hg7
  go_enter Tryz.func29,Tryz.ntmps29
  go_wp2_with ((go_at_call 28;refine hL.out.mono ?_;rintro e w' ⟨rfl,⟨nd,rfl⟩⟩))
  go_region
  have hga:g≠ga:=fun e=>(HO.out ga (.inr (.inl (HR7.out.1 ga rfl)))).2 e.symm
  have HBK1:=sd (blk_far (blk_drewN HBK.out (nd+1)) (p:=⟨ga,x.id.toNat,none⟩) hga (x.log.length:Int))
  have hd5:((w.drewN (nd+1)).setCell ⟨ga,x.id.toNat,none⟩ (x.log.length:Int)).cell? ⟨g,5,none⟩=some (.int .i64 x.commit):=blk_cell HBK1.out 5
  have hd7:((w.drewN (nd+1)).setCell ⟨ga,x.id.toNat,none⟩ (x.log.length:Int)).cell? ⟨g,7,none⟩=some (.slice (some ⟨ga,0,none⟩) x.acks.length c7):=blk_cell HBK1.out 7
  have HN1:=sd ((HN.out.step (w1:=w.drewN (nd+1)) (fun _ _ _=>rfl)).set_ack ga _ c7 hc7 x.id (x.log.length:Int))
  have HOKA:=sd (show ok ga from (HO.out ga (.inr (.inl (HR7.out.1 ga rfl)))).1.1)
  have HKA:Aside0 (∀ W,W=(w.drewN (nd+1)).setCell ⟨ga,x.id.toNat,none⟩ (x.log.length:Int)→∀ w3,Below W.drew.heap.size W.drew w3→Kept w w3 ok):=⟨fun W hW w3 hb3=>by
   have hsz:W.drew.heap.size=w.heap.size:=by rw [hW];simp [World.setCell]
   refine ⟨by have:=hb3.size;omega,fun i hi hno=>?_⟩
   have h1:=hb3.block i (by omega)
   rw [h1,hW]
   exact Below.heap_setCell _ _ _ i (fun e=>hno (by rw [show i=ga from e];exact HOKA.out))⟩
  have HBA:Aside0 (∀ W,W=(w.drewN (nd+1)).setCell ⟨ga,x.id.toNat,none⟩ (x.log.length:Int)→∀ w3,Below W.drew.heap.size W.drew w3→Below base w w3):=⟨fun W hW w3 hb3=>by
   have hsz:W.drew.heap.size=w.heap.size:=by rw [hW];simp [World.setCell]
   refine ⟨by rw [hb3.os,hW];rfl,by rw [hb3.tape,hW];rfl,by rw [hb3.output,hW];rfl,by have:=hb3.size;omega,fun i hi=>?_⟩
   have h1:=hb3.block i (by omega)
   rw [h1,hW]
   exact Below.heap_setCell _ _ _ i (fun e=>by have:i=ga:=e;omega)⟩
  clear hc0 hc6 hc7 hx hf p1 q1
  generalize hW1:(w.drewN (nd+1)).setCell ⟨ga,x.id.toNat,none⟩ (x.log.length:Int)=W1 at *
  have HR1:=sd (show Kd.R (Kd.int .i64) 3 W1 base _ (.slice (some ⟨ga,0,none⟩) x.acks.length c7) (x.acks.set x.id.toNat (x.log.length:Int)) from by rw [← hW1];exact HP.out.1)
  have HCOM:=sd (show Calls Tryz.prog 69 #[.slice (some ⟨ga,0,none⟩) x.acks.length c7] W1.drew fun e w'=>e=.returned c∧Below W1.drew.heap.size W1.drew w' from by
   obtain ⟨hn7,hcap,hC⟩:=Kd.R_reads' HR1.out
   have h:=quorum_Commit.calls (some ⟨ga,0,none⟩) c7 (x.acks.set x.id.toNat (x.log.length:Int)) c W1.drew (by exact hC) (by rw [List.length_set];exact hcap) HCC.out
   rwa [List.length_set] at h)
  go_wp2
  go_region_law (refine x_step_call rfl Tryz.func69 (by kernel_rfl) rfl #[.slice (some ⟨ga,0,none⟩) x.acks.length c7] rfl (by simp [Act.eval,Act.put]) ?_;refine HCOM.out.mono ?_;rintro e w3 ⟨rfl,hb3⟩;have HB3:=sd hb3;have HBK3:=sd ((hb3.block g (blk_lt HBK1.out)).trans HBK1.out);have hs5:w3.cell? ⟨g,5,none⟩=some (.int .i64 x.commit):=blk_cell HBK3.out 5;have ht5:w3.frozen? ⟨g,5,none⟩=false:=blk_frozen HBK3.out 5;clear hb3;refine ⟨_,rfl,?_⟩)
  all_goals
   go_end0
   refine ⟨rfl,?_,?_,?_⟩
   ·rw [HCT.out]
    exact ((((HN1.out.step (w1:=W1.drew) (fun _ _ _=>rfl)).below HB3.out).set_commit _).mono (fun k hk=>Or.inl hk))
   ·exact kept_at (HKA.out W1 rfl _ HB3.out) HOK.out
   ·exact below_at (HBA.out W1 rfl _ HB3.out) hge
 ·have hle2:x.leads=false:=by simpa using hle
  rw [hle2] at hL
  have HC:=sd (show x.count c=x by unfold Nod.count;rw [if_neg hle])
  clear hb h6 h7 h8 h9 ho a6 a7 a8 hok hle hle2 hc
  go_enter Tryz.func29,Tryz.ntmps29
  go_wp2_with ((go_at_call 28;refine hL.out.mono ?_;rintro e w' ⟨rfl,⟨nd,rfl⟩⟩))
  go_end0
  refine ⟨rfl,?_,⟨Nat.le_refl _,fun _ _ _=>rfl⟩,?_⟩
  ·rw [HC.out]
   exact (HN.out.step (w1:=w.drewN nd) (fun _ _ _=>rfl)).mono (fun k hk=>Or.inl hk)
  ·exact ⟨rfl,rfl,rfl,Nat.le_refl _,fun _ _=>rfl⟩
theorem own_calls (x:Nod) (w:World) (base g:Nat) (ok:Nat→Prop) (h:Nd w base g ok x) :
  Calls Tryz.prog 38 #[.pointer (some ⟨g,0,none⟩)] w fun e w'=>∃ A6 c6,e=.returned (.agg #[x.id,x.last,x.commit,.slice A6 x.log.length c6])∧x.log.length≤c6∧Kd.C Kd.string w A6 x.log.length x.log∧Below w.heap.size w w':=by
 have hu56:=Tryz.underlying56
 have hu26:=Tryz.underlying26
 have hu63:=Tryz.underlying63
 obtain ⟨v6,v7,v8,v9,P6,P7,P8,P9,hb,-,hok,h6,h7,h8,h9,ho,a6,a7,a8⟩:=h
 obtain ⟨A6,c6,rfl,hc6,hC⟩:=Kd.R_reads h6
 have HC:=sd hC
 have HC6:=sd hc6
 have hc0:∀ o,(w.alloc o).cell? ⟨g,0,none⟩=some (.int .i64 x.id):=fun o=>blk_cell (blk_alloc hb o) 0
 have hc3:∀ o,(w.alloc o).cell? ⟨g,3,none⟩=some (.int .i64 x.last):=fun o=>blk_cell (blk_alloc hb o) 3
 have hc5:∀ o,(w.alloc o).cell? ⟨g,5,none⟩=some (.int .i64 x.commit):=fun o=>blk_cell (blk_alloc hb o) 5
 have hcL:∀ o,(w.alloc o).cell? ⟨g,6,none⟩=some (.slice A6 x.log.length c6):=fun o=>blk_cell (blk_alloc hb o) 6
 clear hb hok h6 h7 h8 h9 ho a6 a7 a8 hC hc6
 go_enter Tryz.func38,Tryz.ntmps38
 go_wp2
 go_region
 all_goals
  go_wp2
  refine bodyPost_ret (results_cell_row rfl _ _ w.heap.size 63 #[x.id,x.last,x.commit,.slice A6 x.log.length c6] (0,0) _ rfl ?_ Tryz.underlying63 rfl (by kernel_rfl)) rfl ?_
  ·exact x_alloc_new (w.drew) _
  ·exact ⟨A6,c6,rfl,HC6.out,HC.out,by repeat (first | exact Below.refl _ _ | apply pw_below_drewN | apply below_alloc)⟩
theorem Nd.blk {w:World} {base g:Nat} {ok:Nat→Prop} {x:Nod} (h:Nd w base g ok x):∃ A6 c6 A7 c7 A8 c8 A9 c9,w.heap[g]?=some (.cells (x.cells (.slice A6 x.log.length c6) (.slice A7 x.acks.length c7) (.slice A8 x.votes.length c8) (.slice A9 x.told.length c9)) 56 (0,0)) ∧
  x.log.length≤c6∧Kd.C Kd.string w A6 x.log.length x.log∧x.acks.length≤c7∧Kd.C (Kd.int .i64) w A7 x.acks.length x.acks∧x.votes.length≤c8∧Kd.C k63 w A8 x.votes.length x.votes∧x.told.length≤c9∧Kd.C k28 w A9 x.told.length x.told:=by
 obtain ⟨v6,v7,v8,v9,P6,P7,P8,P9,hb,hg,hok,h6,h7,h8,h9,ho,a6,a7,a8⟩:=h
 obtain ⟨A6,c6,rfl,e6,k6⟩:=Kd.R_reads h6
 obtain ⟨A7,c7,rfl,e7,k7⟩:=Kd.R_reads h7
 obtain ⟨A8,c8,rfl,e8,k8⟩:=Kd.S_reads h8
 obtain ⟨A9,c9,rfl,e9,k9⟩:=Kd.S_reads h9
 exact ⟨A6,c6,A7,c7,A8,c8,A9,c9,hb,e6,k6,e7,k7,e8,k8,e9,k9⟩
theorem Nd.old {w w1:World} {base g:Nat} {ok:Nat→Prop} {x:Nod} (h:Nd w base g ok x) (hb:Below w.heap.size w w1):Nd w1 base g (fun k=>ok k∧k < w.heap.size∧base≤k) x:=h.bound.below hb
theorem Nd.set_view {w:World} {base g:Nat} {ok:Nat→Prop} {x:Nod} (h:Nd w base g ok x) (v:Int):Nd (w.setCell ⟨g,2,none⟩ v) base g ok { x with view:=v }:=by
 obtain ⟨v6,v7,v8,v9,P6,P7,P8,P9,hb,hg,hok,h6,h7,h8,h9,ho,a6,a7,a8⟩:=h
 exact ⟨v6,v7,v8,v9,P6,P7,P8,P9,blk_put (cs':=Nod.cells { x with view:=v } v6 v7 v8 v9) hb 2 _ rfl,hg,hok,Kd.R_far h6 (fun k hk=>(ho k (.inl hk)).2) _,Kd.R_far h7 (fun k hk=>(ho k (.inr (.inl hk))).2) _,Kd.S_far h8 (fun k hk=>(ho k (.inr (.inr (.inl hk)))).2) _,Kd.S_far h9 (fun k hk=>(ho k (.inr (.inr (.inr hk)))).2) _,ho,a6,a7,a8⟩
theorem Nd.set_last {w:World} {base g:Nat} {ok:Nat→Prop} {x:Nod} (h:Nd w base g ok x) (v:Int):Nd (w.setCell ⟨g,3,none⟩ v) base g ok { x with last:=v }:=by
 obtain ⟨v6,v7,v8,v9,P6,P7,P8,P9,hb,hg,hok,h6,h7,h8,h9,ho,a6,a7,a8⟩:=h
 exact ⟨v6,v7,v8,v9,P6,P7,P8,P9,blk_put (cs':=Nod.cells { x with last:=v } v6 v7 v8 v9) hb 3 _ rfl,hg,hok,Kd.R_far h6 (fun k hk=>(ho k (.inl hk)).2) _,Kd.R_far h7 (fun k hk=>(ho k (.inr (.inl hk))).2) _,Kd.S_far h8 (fun k hk=>(ho k (.inr (.inr (.inl hk)))).2) _,Kd.S_far h9 (fun k hk=>(ho k (.inr (.inr (.inr hk)))).2) _,ho,a6,a7,a8⟩
theorem Nd.set_works {w:World} {base g:Nat} {ok:Nat→Prop} {x:Nod} (h:Nd w base g ok x) (v:Bool):Nd (w.setCell ⟨g,4,none⟩ v) base g ok { x with works:=v }:=by
 obtain ⟨v6,v7,v8,v9,P6,P7,P8,P9,hb,hg,hok,h6,h7,h8,h9,ho,a6,a7,a8⟩:=h
 exact ⟨v6,v7,v8,v9,P6,P7,P8,P9,blk_put (cs':=Nod.cells { x with works:=v } v6 v7 v8 v9) hb 4 _ rfl,hg,hok,Kd.R_far h6 (fun k hk=>(ho k (.inl hk)).2) _,Kd.R_far h7 (fun k hk=>(ho k (.inr (.inl hk))).2) _,Kd.S_far h8 (fun k hk=>(ho k (.inr (.inr (.inl hk)))).2) _,Kd.S_far h9 (fun k hk=>(ho k (.inr (.inr (.inr hk)))).2) _,ho,a6,a7,a8⟩
theorem Nd.set_log {w:World} {base g:Nat} {ok Q:Nat→Prop} {x:Nod} {v:Value} {r:List ByteArray} (h:Nd w base g ok x) (hv:Kd.R Kd.string 9 w base Q v r) (hd:∀ k,Q k→¬ ok k):Nd (w.setCell ⟨g,6,none⟩ v) base g (fun k=>ok k∨Q k) { x with log:=r }:=by
 obtain ⟨v6,v7,v8,v9,P6,P7,P8,P9,hb,hg,hok,h6,h7,h8,h9,ho,a6,a7,a8⟩:=h
 refine ⟨v,v7,v8,v9,Q,P7,P8,P9,blk_put (cs':=Nod.cells { x with log:=r } v v7 v8 v9) hb 6 _ rfl,hg,.inl hok,Kd.R_far hv (fun k hk e=>hd k hk (by rw [show k=g from e];exact hok)) _,Kd.R_far h7 (fun k hk=>(ho k (.inr (.inl hk))).2) _,Kd.S_far h8 (fun k hk=>(ho k (.inr (.inr (.inl hk)))).2) _,Kd.S_far h9 (fun k hk=>(ho k (.inr (.inr (.inr hk)))).2) _,?_,?_,a7,a8⟩
 ·rintro k (hk | hk)
  ·exact ⟨.inr hk,fun e=>hd k hk (by rw [e];exact hok)⟩
  ·exact ⟨.inl (ho k (.inr hk)).1,(ho k (.inr hk)).2⟩
 ·exact fun k hk=>⟨fun h=>hd k hk (ho k (.inr (.inl h))).1,fun h=>hd k hk (ho k (.inr (.inr (.inl h)))).1,fun h=>hd k hk (ho k (.inr (.inr (.inr h)))).1⟩
theorem Nd.set_votes {w:World} {base g:Nat} {ok Q:Nat→Prop} {x:Nod} {v:Value} {r:List S63} (h:Nd w base g ok x) (hv:Kd.S k63 63 w base Q v r) (hd:∀ k,Q k→¬ ok k):Nd (w.setCell ⟨g,8,none⟩ v) base g (fun k=>ok k∨Q k) { x with votes:=r }:=by
 obtain ⟨v6,v7,v8,v9,P6,P7,P8,P9,hb,hg,hok,h6,h7,h8,h9,ho,a6,a7,a8⟩:=h
 refine ⟨v6,v7,v,v9,P6,P7,Q,P9,blk_put (cs':=Nod.cells { x with votes:=r } v6 v7 v v9) hb 8 _ rfl,hg,.inl hok,Kd.R_far h6 (fun k hk=>(ho k (.inl hk)).2) _,Kd.R_far h7 (fun k hk=>(ho k (.inr (.inl hk))).2) _,Kd.S_far hv (fun k hk e=>hd k hk (by rw [show k=g from e];exact hok)) _,Kd.S_far h9 (fun k hk=>(ho k (.inr (.inr (.inr hk)))).2) _,?_,?_,?_,?_⟩
 ·rintro k (hk | hk | hk | hk)
  ·exact ⟨.inl (ho k (.inl hk)).1,(ho k (.inl hk)).2⟩
  ·exact ⟨.inl (ho k (.inr (.inl hk))).1,(ho k (.inr (.inl hk))).2⟩
  ·exact ⟨.inr hk,fun e=>hd k hk (by rw [e];exact hok)⟩
  ·exact ⟨.inl (ho k (.inr (.inr (.inr hk)))).1,(ho k (.inr (.inr (.inr hk)))).2⟩
 ·exact fun k hk=>⟨(a6 k hk).1,fun h=>hd k h (ho k (.inl hk)).1,(a6 k hk).2.2⟩
 ·exact fun k hk=>⟨fun h=>hd k h (ho k (.inr (.inl hk))).1,(a7 k hk).2⟩
 ·exact fun k hk h=>hd k hk (ho k (.inr (.inr (.inr h)))).1
section
theorem below_weak {b B:Nat} {w W:World} (h:Below B w W) (hb:b≤B):Below b w W:=⟨h.os,h.tape,h.output,h.size,fun k hk=>h.block k (by omega)⟩
def Did (w w':World) (base g:Nat) (ok:Nat→Prop) (x:Nod):Prop:=Nd w' base g (fun k=>ok k∨w.heap.size≤k) x∧Kept w w' ok∧Below base w w'∧base≤w.heap.size∧ok g
section
variable {w w1 w2:World} {base g:Nat} {ok:Nat→Prop} {x y:Nod} {v:Value}
theorem Did.refl (h:Nd w base g ok x):Did w w base g ok x:=by
 have hlt:=h.lt
 have hge:=h.ge
 obtain ⟨v6,v7,v8,v9,P6,P7,P8,P9,hb,hg,hok,_⟩:=id h
 exact ⟨h.mono (fun k hk=>.inl hk),Kept.refl _ _,Below.refl _ _,by omega,hok⟩
theorem Did.then_ (h:Did w w1 base g ok x) (k:Did w1 w2 base g (fun k=>ok k∨w.heap.size≤k) y):Did w w2 base g ok y :=
 ⟨k.1.mono (fun i hi=>by
  have:=h.2.1.1
  rcases hi with (hi | hi) | hi
  ·exact .inl hi
  ·exact .inr hi
  ·exact .inr (by omega)),h.2.1.then_ k.2.1 (fun i hi=>hi),h.2.2.1.trans k.2.2.1,h.2.2.2.1,h.2.2.2.2⟩
theorem Did.below (h:Did w w1 base g ok x) (hb:Below w1.heap.size w1 w2):Did w w2 base g ok x :=
 ⟨h.1.below hb,h.2.1.below hb,h.2.2.1.trans (below_weak hb (by have:=h.2.2.1.size;have:=h.2.2.2.1;omega)),h.2.2.2⟩
theorem Did.blk (h:Did w w1 base g ok x):∃ A6 c6 A7 c7 A8 c8 A9 c9,w1.heap[g]?=some (.cells (x.cells (.slice A6 x.log.length c6) (.slice A7 x.acks.length c7) (.slice A8 x.votes.length c8) (.slice A9 x.told.length c9)) 56 (0,0)) ∧
  x.log.length≤c6∧Kd.C Kd.string w1 A6 x.log.length x.log∧x.acks.length≤c7∧Kd.C (Kd.int .i64) w1 A7 x.acks.length x.acks∧x.votes.length≤c8∧Kd.C k63 w1 A8 x.votes.length x.votes∧x.told.length≤c9∧Kd.C k28 w1 A9 x.told.length x.told:=h.1.blk
theorem Did.put (h:Did w w1 base g ok x) (j:Nat) (v:Value) (hn:Nd (w1.setCell ⟨g,j,none⟩ v) base g (fun k=>ok k∨w.heap.size≤k) y):Did w (w1.setCell ⟨g,j,none⟩ v) base g ok y :=
 ⟨hn,h.2.1.setCell (.inl h.2.2.2.2) _,below_at h.2.2.1 h.1.ge,h.2.2.2⟩
theorem Did.set_view (h:Did w w1 base g ok x) (v:Int):Did w (w1.setCell ⟨g,2,none⟩ v) base g ok { x with view:=v }:=h.put 2 _ (h.1.set_view v)
theorem Did.set_last (h:Did w w1 base g ok x) (v:Int):Did w (w1.setCell ⟨g,3,none⟩ v) base g ok { x with last:=v }:=h.put 3 _ (h.1.set_last v)
theorem Did.set_works (h:Did w w1 base g ok x) (v:Bool):Did w (w1.setCell ⟨g,4,none⟩ v) base g ok { x with works:=v }:=h.put 4 _ (h.1.set_works v)
theorem Did.set_commit (h:Did w w1 base g ok x) (v:Int):Did w (w1.setCell ⟨g,5,none⟩ v) base g ok { x with commit:=v }:=h.put 5 _ (h.1.set_commit v)
theorem Did.set_log {r:List ByteArray} {W:World} (h:Did w w1 base g ok x) (hb:Below w1.heap.size w1 w2) (hle:w1.heap.size≤W.heap.size) (hv:Kd.R Kd.string 9 w2 W.heap.size (fun _=>True) v r):Did w (w2.setCell ⟨g,6,none⟩ v) base g ok { x with log:=r }:=by
 have h1:=h.2.2.1.size
 have h2:=h.2.2.2.1
 have hn:=(h.1.old hb).set_log (Q:=fun k=>w1.heap.size≤k) (Kd.R_mono (Kd.R_lower (Kd.R_bound hv) (by omega:base≤W.heap.size)) (fun k hk=>by have:=hk.2.1;omega)) (fun k hk hk2=>by have:=hk2.2.1;omega)
 refine (h.below hb).put 6 v (hn.mono (fun k hk=>?_))
 rcases hk with hk | hk
 ·exact hk.1
 ·exact .inr (by omega)
theorem Did.set_votes {r:List S63} {W:World} (h:Did w w1 base g ok x) (hb:Below w1.heap.size w1 w2) (hle:w1.heap.size≤W.heap.size) (hv:Kd.S k63 63 w2 W.heap.size (fun _=>True) v r):Did w (w2.setCell ⟨g,8,none⟩ v) base g ok { x with votes:=r }:=by
 have h1:=h.2.2.1.size
 have h2:=h.2.2.2.1
 have hn:=(h.1.old hb).set_votes (Q:=fun k=>w1.heap.size≤k) (Kd.S_mono (Kd.S_lower (Kd.S_bound hv) (by omega:base≤W.heap.size)) (fun k hk=>by have:=hk.2.1;omega)) (fun k hk hk2=>by have:=hk2.2.1;omega)
 refine (h.below hb).put 8 v (hn.mono (fun k hk=>?_))
 rcases hk with hk | hk
 ·exact hk.1
 ·exact .inr (by omega)
theorem Did.drewN (h:Did w w1 base g ok x) (n:Nat):Did w (w1.drewN n) base g ok x:=h.below (pw_below_drewN (Below.refl _ _) n)
theorem Did.drew (h:Did w w1 base g ok x):Did w w1.drew base g ok x:=h.below (below_drew (Below.refl _ _))
theorem Did.alloc (h:Did w w1 base g ok x) (o:Obj):Did w (w1.alloc o) base g ok x:=h.below (below_alloc (Below.refl _ _) o)
end
theorem clear_did (x:Nod) (w0 w:World) (base g:Nat) (ok:Nat→Prop) (hn0:0≤x.n) (hn1:x.n≤1000) (h:Did w0 w base g ok x) :
  Calls Tryz.prog 52 #[.pointer (some ⟨g,0,none⟩)] w fun e w'=>e=.returned (.tuple #[])∧Did w0 w' base g ok x.clear:=by
 refine (clear_calls x w base g _ hn0 hn1 h.1).mono ?_
 rintro e w' ⟨rfl,a,b,c⟩
 exact ⟨rfl,h.then_ ⟨a,b,c,by have:=h.2.2.1.size;have:=h.2.2.2.1;omega,.inl h.2.2.2.2⟩⟩
theorem count_did (x:Nod) (w0 w:World) (base g:Nat) (ok:Nat→Prop) (c:Int) (hid:0≤x.id) (hid2:x.id < (x.acks.length:Int)) (hv:0≤x.view) (hn:1≤x.n) (hc:quorum_Commit.f (x.acks.set x.id.toNat (x.log.length:Int))=some c) (h:Did w0 w base g ok x) :
  Calls Tryz.prog 29 #[.pointer (some ⟨g,0,none⟩)] w fun e w'=>e=.returned (.tuple #[])∧Did w0 w' base g ok (x.count c):=by
 have hbase:base≤w.heap.size:=by have:=h.2.2.1.size;have:=h.2.2.2.1;omega
 refine (count_calls x w base g _ c hid hid2 hv hn hc hbase h.1).mono ?_
 rintro e w' ⟨rfl,a,b,c⟩
 exact ⟨rfl,h.then_ ⟨a,b,c,hbase,.inl h.2.2.2.2⟩⟩
def Nod.join (x:Nod) (view:Int) (r:List S63):Nod:={ ({ x with view:=view,works:=false } : Nod).clear with votes:=r }
theorem join_did (k:Nat) (x:Nod) (view:Int) (r:List S63) (w0 w:World) (base g:Nat) (ok:Nat→Prop) (hn0:0≤x.n) (hn1:x.n≤1000) (hr:quorum_Add.f k [] x.id x.last x.commit x.log=some r) (h:Did w0 w base g ok x) :
  Calls Tryz.prog 34 #[.pointer (some ⟨g,0,none⟩),.int .i64 view] w fun e w'=>e=.returned (.tuple #[])∧Did w0 w' base g ok (x.join view r):=by
 have hu56:=Tryz.underlying56
 have hu26:=Tryz.underlying26
 have HN:=sd h
 have hN0:=sd hn0
 have hN1:=sd hn1
 have HR:=sd (show quorum_Add.f k [] (Nod.clear { x with view:=view,works:=false }).id (Nod.clear { x with view:=view,works:=false }).last (Nod.clear { x with view:=view,works:=false }).commit (Nod.clear { x with view:=view,works:=false }).log=some r from hr)
 obtain ⟨A6,c6,A7,c7,A8,c8,A9,c9,hb,-⟩:=h.blk
 have hc2:w.cell? ⟨g,2,none⟩=some (.int .i64 x.view):=blk_cell hb 2
 have hf2:w.frozen? ⟨g,2,none⟩=false:=blk_frozen hb 2
 have hput:∀ u,(w.setCell ⟨g,2,none⟩ (.int .i64 u)).heap[g]?=some (.cells (Nod.cells { x with view:=u } (.slice A6 x.log.length c6) (.slice A7 x.acks.length c7) (.slice A8 x.votes.length c8) (.slice A9 x.told.length c9)) 56 (0,0)):=fun u=>blk_put hb 2 _ rfl
 have hc4:∀ u,(w.setCell ⟨g,2,none⟩ (.int .i64 u)).cell? ⟨g,4,none⟩=some (.bool x.works):=fun u=>blk_cell (hput u) 4
 have hf4:∀ u,(w.setCell ⟨g,2,none⟩ (.int .i64 u)).frozen? ⟨g,4,none⟩=false:=fun u=>blk_frozen (hput u) 4
 clear hb hput h hn0 hn1 hr
 go_enter Tryz.func34,Tryz.ntmps34
 go_wp2_with (first | (go_at_call 52;refine (clear_did { x with view:=view,works:=false } w0 _ base g ok hN0.out hN1.out ((HN.out.set_view view).set_works false)).mono ?_;rintro e w3 ⟨rfl,h3⟩;have HN3:=sd h3;clear h3) | (go_at_call 38;refine (own_calls _ w3 base g _ HN3.out.1).mono ?_;rintro e w4 ⟨B6,b6,rfl,hc6,hC,hb4⟩;have HC6:=sd hc6;have HC:=sd hC;have HB4:=sd hb4;clear hc6 hC hb4) | (go_at_call 53;refine (quorum_Add.calls k none 0 [] _ _ _ B6 b6 _ r w4 (Kd.C_nil _ _) (Nat.le_refl 0) (Kd.C_below HC.out HB4.out) HC6.out HR.out).mono ?_;rintro e w5 ⟨v0,rfl,hS,hb5⟩;obtain ⟨S8,s8,rfl⟩:=Kd.S_slice hS;have HS:=sd hS;have HB5:=sd hb5;obtain ⟨D6,d6,D7,d7,D8,d8,D9,d9,hb,-⟩:=((HN3.out.below HB4.out).below HB5.out).blk;have hs8:w5.cell? ⟨g,8,none⟩=some _:=blk_cell hb 8;have ht8:w5.frozen? ⟨g,8,none⟩=false:=blk_frozen hb 8;clear hS hb5 hb))
 all_goals
  go_end0
  exact ⟨rfl,(HN3.out.below HB4.out).set_votes HB5.out (Nat.le_refl _) HS.out⟩
end
end Go.Proofs.YtfpfpckocemmdaaGreat.P
