/- Part 13 of the walk. -/
import Derived.Test.YtfpfpckocemmdaaGreatCDoes12
set_option linter.unusedVariables false
set_option linter.unusedSimpArgs false
set_option maxHeartbeats 8000000
set_option maxRecDepth 100000
namespace Go.Proofs.YtfpfpckocemmdaaGreat.P
open Go.RowKit Go.Proofs.YtfpfpckocemmdaaGreatW.PrintWords Go.Proofs.YtfpfpckocemmdaaGreatW.PrintLast Go.Proofs.YtfpfpckocemmdaaGreatW.PrintMore
structure Good (x:Nod):Prop where
 n1:1≤x.n
 n2:x.n≤1000
 id0:0≤x.id
 id1:x.id < x.n
 view:0≤x.view
 log:x.log.length≤1000
 acks:x.acks.length=x.n.toNat
 votes:x.votes.length≤1000
 each:∀ v,v∈x.votes→0≤v.f0∧v.f0≤1000∧v.f3.length≤1000
 told:x.told.length≤1000
def mostOf (l:List S63):Int:=l.foldl (fun a v=>max a v.f2) 0
theorem mostOf_append (l:List S63) (v:S63):mostOf (l++[v])=max (mostOf l) v.f2:=by unfold mostOf;rw [List.foldl_append];rfl
def Nod.counts (y:Nod):Nod:=y.count (commitOf (y.acks.set y.id.toNat (y.log.length:Int)))
def Nod.rise (x:Nod):Nod:={ x with log:=(bestOf x.votes).f3,commit:=min (mostOf x.votes) ((bestOf x.votes).f3.length:Int),works:=true,last:=x.view }
def Nod.may (x:Nod):Bool:=!x.works && x.prim x.view && enoughOf x.votes x.n
def Nod.begin_ (x:Nod):Nod:=if x.may then x.rise.clear.counts.tell else x
theorem enough_ne (l:List S63) (n:Int) (hn:1≤n) (h:enoughOf l n=true):l≠[]:=by
 rintro rfl
 have h1:=of_decide_eq_true h
 have h2:((quorum_Enough.froms ([]:List S63)).length:Int)=0:=rfl
 rw [h2] at h1
 omega
theorem quiet_primary (x:Nod) (view:Int) (w:World) (g:Nat) (h0:w.cell? ⟨g,0,none⟩=some (.int .i64 x.id)) (h1:w.cell? ⟨g,1,none⟩=some (.int .i64 x.n)) (hv:0≤view) (hn:1≤x.n) (k:Nat) :
  Calls Tryz.prog 68 #[.pointer (some ⟨g,0,none⟩),view] (w.drewN k) fun e w'=>e=.returned (.bool (x.prim view))∧∃ m,w'=(w.drewN k).drewN m :=
 (primary_calls x view (w.drewN k) g h0 h1 hv hn).mono (fun _ _ ⟨a,b⟩=>⟨a,b.out⟩)
theorem x_step_callw {P:Program} {ops:Array Oper} {o:Oper} {a:Act} {w:World} {K:Act→World→Prop} {Q:Exit→Act→World→Prop} {E:Prop} (hw:Region.wanted o (yielded ops a.tmps)=true) {f:FuncId} {fn:Func} {xs:Array Operand} {ts:Array TypeId}
  (hf:P.funcs[f]?=some fn) (hname:(fn.name== "runtime.NumGoroutine")=false) (hb:fn.body.isSome=true) (args:Array Value)
  (hop:o.op=.call { callee:=.value (.func f),args:=xs,argTypes:=ts }) (hargs:xs.map a.eval=args)
  (h:Calls P f args w fun e w'=>∃ v,e=.returned v∧K (a.put o.dst v) w'):if Region.wanted o (yielded ops a.tmps)=true then Oper.wp P o a w K Q else E:=by
 rw [if_pos hw]
 have he:=enters_ hf hname hb args w
 have hrun:(execOp a.eval o).run P w=.ok (.enter f args) w:=by
  unfold execOp
  simp [hop,resolve,Deferred.ofValue,invoke,Act.eval,hargs,he]
 unfold Oper.wp
 rw [hrun,Oper.upon_enter]
 refine h.mono fun e w'' hh=>?_
 obtain ⟨v,rfl,hk⟩:=hh
 exact hk
theorem begin_works (x:Nod) (w0 w:World) (base g:Nat) (ok:Nat→Prop) (hw:x.works=true) (h:Did w0 w base g ok x) :
  Calls Tryz.prog 35 #[.pointer (some ⟨g,0,none⟩)] w fun e w'=>e=.returned (.tuple #[])∧Did w0 w' base g ok x:=by
 have hu56:=Tryz.underlying56
 have hu26:=Tryz.underlying26
 have HN:=sd h
 obtain ⟨A6,c6,A7,c7,A8,c8,A9,c9,hb,-⟩:=h.blk
 have hc4:w.cell? ⟨g,4,none⟩=some (.bool x.works):=blk_cell hb 4
 rw [hw] at hc4
 clear hb h hw
 go_enter Tryz.func35,Tryz.ntmps35
 go_wp2
 go_region
 go_wp2
 refine bodyPost_ret (results_none rfl _ _ _) rfl ?_
 exact ⟨rfl,HN.out.drewN _⟩
theorem begin_other (x:Nod) (w0 w:World) (base g:Nat) (ok:Nat→Prop) (hw:x.works=false) (hn0:1≤x.n) (hv:0≤x.view) (hp:x.prim x.view=false) (h:Did w0 w base g ok x) :
  Calls Tryz.prog 35 #[.pointer (some ⟨g,0,none⟩)] w fun e w'=>e=.returned (.tuple #[])∧Did w0 w' base g ok x:=by
 have hu56:=Tryz.underlying56
 have hu26:=Tryz.underlying26
 have HN:=sd h
 obtain ⟨A6,c6,A7,c7,A8,c8,A9,c9,hb,-⟩:=h.blk
 have hc0:w.cell? ⟨g,0,none⟩=some (.int .i64 x.id):=blk_cell hb 0
 have hc1:w.cell? ⟨g,1,none⟩=some (.int .i64 x.n):=blk_cell hb 1
 have hc2:w.cell? ⟨g,2,none⟩=some (.int .i64 x.view):=blk_cell hb 2
 have hc4:w.cell? ⟨g,4,none⟩=some (.bool x.works):=blk_cell hb 4
 rw [hw] at hc4
 have HP:=sd (fun k=>quiet_primary x x.view w g hc0 hc1 hv hn0 k)
 rw [hp] at HP
 clear hb h hw hv hn0 hp
 go_enter Tryz.func35,Tryz.ntmps35
 go_wp2
 go_quiet ((go_at_call 68;exact Calls.quiet_of (HP.out _)))
 all_goals
  go_wp2
  refine bodyPost_ret (results_none rfl _ _ _) rfl ?_
  exact ⟨rfl,HN.out.drewN _⟩
theorem clear_good {x:Nod} (h:Good x):Good x.clear:=⟨h.n1,h.n2,h.id0,h.id1,h.view,h.log,by simp [Nod.clear],by simp [Nod.clear],by simp [Nod.clear],h.told⟩
theorem rise_good {x:Nod} (h:Good x) (hne:x.votes≠[]):Good x.rise:=⟨h.n1,h.n2,h.id0,h.id1,h.view,(h.each _ (bestOf_mem _ hne)).2.2,h.acks,h.votes,h.each,h.told⟩
theorem counts_good {x:Nod} (h:Good x):Good x.counts:=by
 unfold Nod.counts Nod.count
 split
 ·exact ⟨h.n1,h.n2,h.id0,h.id1,h.view,h.log,by rw [← h.acks];simp,h.votes,h.each,h.told⟩
 ·exact h
theorem counts_did (x:Nod) (w0 w:World) (base g:Nat) (ok:Nat→Prop) (hg:Good x) (h:Did w0 w base g ok x) :
  Calls Tryz.prog 29 #[.pointer (some ⟨g,0,none⟩)] w fun e w'=>e=.returned (.tuple #[])∧Did w0 w' base g ok x.counts :=
 count_did x w0 w base g ok _ hg.id0 (by rw [hg.acks];have:=hg.id1;have:=hg.n1;omega) hg.view hg.n1 (commit_of _ (by rw [List.length_set,hg.acks];have:=hg.n2;omega)) h
theorem begin_few (x:Nod) (w0 w:World) (base g:Nat) (ok:Nat→Prop) (hg:Good x) (hw:x.works=false) (hp:x.prim x.view=true) (hen:enoughOf x.votes x.n=false) (h:Did w0 w base g ok x) :
  Calls Tryz.prog 35 #[.pointer (some ⟨g,0,none⟩)] w fun e w'=>e=.returned (.tuple #[])∧Did w0 w' base g ok x:=by
 have hu56:=Tryz.underlying56
 have hu26:=Tryz.underlying26
 have hu63:=Tryz.underlying63
 have HN:=sd h
 have HG:=sd hg
 obtain ⟨A6,c6,A7,c7,A8,c8,A9,c9,hb,_,_,_,_,hc8,hC8,-⟩:=h.blk
 have HBK:=sd hb
 have HC8:=sd hC8
 have HCC8:=sd hc8
 have hc0:w.cell? ⟨g,0,none⟩=some (.int .i64 x.id):=blk_cell hb 0
 have hc1:w.cell? ⟨g,1,none⟩=some (.int .i64 x.n):=blk_cell hb 1
 have hc2:w.cell? ⟨g,2,none⟩=some (.int .i64 x.view):=blk_cell hb 2
 have hc4:w.cell? ⟨g,4,none⟩=some (.bool x.works):=blk_cell hb 4
 have hcv:w.cell? ⟨g,8,none⟩=some (.slice A8 x.votes.length c8):=blk_cell hb 8
 rw [hw] at hc4
 have HP:=sd (primary_calls x x.view w.drew g hc0 hc1 hg.view hg.n1)
 rw [hp] at HP
 have HE:=sd (enough_of x.votes x.n hg.n1 hg.n2 hg.votes (fun v hv=>⟨(hg.each v hv).1,(hg.each v hv).2.1⟩))
 rw [hen] at HE
 have HEN:=sd hen
 have HWW:=sd hw
 clear hb h hw hp hC8 hc8 hg hen
 go_enter Tryz.func35,Tryz.ntmps35
 go_wp2
 go_region_held3 (fun W=>W.cell? ⟨g,4,none⟩=some (.bool false)∧W.cell? ⟨g,2,none⟩=some (.int .i64 x.view)∧W.cell? ⟨g,8,none⟩=some (.slice A8 x.votes.length c8)∧W.cell? ⟨g,1,none⟩=some (.int .i64 x.n))
  (first | exact ⟨hc4,hc2,hcv,hc1⟩ | exact ⟨(blk_cell HBK5.out 4).trans (by show some (Value.bool x.works)=_;rw [HWW.out]),blk_cell HBK5.out 2,blk_cell HBK5.out 8,blk_cell HBK5.out 1⟩)
  (first | (refine x_step_callw (by rfl) Tryz.func68 (by kernel_rfl) rfl #[.pointer (some ⟨g,0,none⟩),x.view] rfl (by simp [Act.eval,Act.put]) ?_;refine HP.out.mono ?_;rintro e w' ⟨rfl,⟨nd,rfl⟩⟩;refine ⟨_,rfl,?_⟩) | (refine x_step_callw (by rfl) Tryz.func73 (by kernel_rfl) rfl #[.slice A8 x.votes.length c8,x.n] rfl (by simp [Act.eval,Act.put]) ?_;refine (quorum_Enough.calls A8 c8 x.votes x.n false (w.drew.drewN nd) (Kd.C_drewN (Kd.C_drew HC8.out) _) HCC8.out HE.out).mono ?_;rintro e w5 ⟨rfl,hb5⟩;have HD5:=sd ((HN.out.drew.drewN nd).below hb5);have HBK5:=sd ((hb5.block g (show g < (w.drew.drewN nd).heap.size from blk_lt HBK.out)).trans HBK.out);have HC85:=sd (Kd.C_below (Kd.C_drewN (Kd.C_drew HC8.out) nd) hb5);clear hb5;refine ⟨_,rfl,?_⟩))
 rename_i hh
 clear hh
 go_wp2
 refine bodyPost_ret (results_none rfl _ _ _) rfl ?_
 exact ⟨rfl,HD5.out⟩
theorem begin_may (x:Nod) (w0 w:World) (base g:Nat) (ok:Nat→Prop) (hg:Good x) (hw:x.works=false) (hp:x.prim x.view=true) (hen:enoughOf x.votes x.n=true) (h:Did w0 w base g ok x) :
  Calls Tryz.prog 35 #[.pointer (some ⟨g,0,none⟩)] w fun e w'=>e=.returned (.tuple #[])∧Did w0 w' base g ok x.rise.clear.counts.tell:=by
 have hu56:=Tryz.underlying56
 have hu26:=Tryz.underlying26
 have hu63:=Tryz.underlying63
 have HN:=sd h
 have HG:=sd hg
 obtain ⟨A6,c6,A7,c7,A8,c8,A9,c9,hb,_,_,_,_,hc8,hC8,-⟩:=h.blk
 have HBK:=sd hb
 have HC8:=sd hC8
 have HCC8:=sd hc8
 have hc0:w.cell? ⟨g,0,none⟩=some (.int .i64 x.id):=blk_cell hb 0
 have hc1:w.cell? ⟨g,1,none⟩=some (.int .i64 x.n):=blk_cell hb 1
 have hc2:w.cell? ⟨g,2,none⟩=some (.int .i64 x.view):=blk_cell hb 2
 have hc4:w.cell? ⟨g,4,none⟩=some (.bool x.works):=blk_cell hb 4
 have hcv:w.cell? ⟨g,8,none⟩=some (.slice A8 x.votes.length c8):=blk_cell hb 8
 rw [hw] at hc4
 have HP:=sd (primary_calls x x.view w.drew g hc0 hc1 hg.view hg.n1)
 rw [hp] at HP
 have HE:=sd (enough_of x.votes x.n hg.n1 hg.n2 hg.votes (fun v hv=>⟨(hg.each v hv).1,(hg.each v hv).2.1⟩))
 rw [hen] at HE
 have HEN:=sd hen
 have HWW:=sd hw
 clear hb h hw hp hC8 hc8 hg hen
 go_enter Tryz.func35,Tryz.ntmps35
 go_wp2
 go_region_held3 (fun W=>W.cell? ⟨g,4,none⟩=some (.bool false)∧W.cell? ⟨g,2,none⟩=some (.int .i64 x.view)∧W.cell? ⟨g,8,none⟩=some (.slice A8 x.votes.length c8)∧W.cell? ⟨g,1,none⟩=some (.int .i64 x.n))
  (first | exact ⟨hc4,hc2,hcv,hc1⟩ | exact ⟨(blk_cell HBK5.out 4).trans (by show some (Value.bool x.works)=_;rw [HWW.out]),blk_cell HBK5.out 2,blk_cell HBK5.out 8,blk_cell HBK5.out 1⟩)
  (first | (refine x_step_callw (by rfl) Tryz.func68 (by kernel_rfl) rfl #[.pointer (some ⟨g,0,none⟩),x.view] rfl (by simp [Act.eval,Act.put]) ?_;refine HP.out.mono ?_;rintro e w' ⟨rfl,⟨nd,rfl⟩⟩;refine ⟨_,rfl,?_⟩) | (refine x_step_callw (by rfl) Tryz.func73 (by kernel_rfl) rfl #[.slice A8 x.votes.length c8,x.n] rfl (by simp [Act.eval,Act.put]) ?_;refine (quorum_Enough.calls A8 c8 x.votes x.n true (w.drew.drewN nd) (Kd.C_drewN (Kd.C_drew HC8.out) _) HCC8.out HE.out).mono ?_;rintro e w5 ⟨rfl,hb5⟩;have HD5:=sd ((HN.out.drew.drewN nd).below hb5);have HBK5:=sd ((hb5.block g (show g < (w.drew.drewN nd).heap.size from blk_lt HBK.out)).trans HBK.out);have HC85:=sd (Kd.C_below (Kd.C_drewN (Kd.C_drew HC8.out) nd) hb5);clear hb5;refine ⟨_,rfl,?_⟩))
 rename_i hh
 clear hh
 have HNE:=sd (enough_ne x.votes x.n HG.out.n1 HEN.out)
 have HBEST:=sd (best_of x.votes HNE.out HG.out.votes (fun v hv=>(HG.out.each v hv).2.2))
 have hcv5:w5.cell? ⟨g,8,none⟩=some (.slice A8 x.votes.length c8):=blk_cell HBK5.out 8
 clear hc0 hc1 hc2 hc4 hcv
 generalize hbe:bestOf x.votes=be at *
 have HBE:=sd hbe
 clear hbe
 go_wp2_with ((go_at_call 74;refine (quorum_Best.calls A8 c8 x.votes be.f0 be.f1 be.f2 be.f3 true _ HC85.out HCC8.out HBEST.out).mono ?_;rintro e w6 ⟨v6,rfl,hR6,hb6⟩;obtain ⟨AB,cB,rfl⟩:=Kd.R_slice hR6;have HR6:=sd hR6;have HB6:=sd hb6;have HBK6:=sd ((hb6.block g (blk_lt HBK5.out)).trans HBK5.out);have hcv6:∀ o,(w6.alloc o).cell? ⟨g,8,none⟩=some (.slice A8 x.votes.length c8):=fun o=>blk_cell (blk_alloc HBK6.out o) 8;clear hb6 hR6))
 have HC7:=sd (Kd.C_alloc (Kd.C_below HC85.out HB6.out) (.cells #[be.f0,be.f1,be.f2,.slice AB be.f3.length cB] 63))
 have HBB7:=sd (x_alloc_new w6 (.cells #[be.f0,be.f1,be.f2,.slice AB be.f3.length cB] 63))
 have HBK7:=sd (blk_alloc HBK6.out (.cells #[be.f0,be.f1,be.f2,.slice AB be.f3.length cB] 63))
 have HB57:=sd (below_alloc HB6.out (.cells #[be.f0,be.f1,be.f2,.slice AB be.f3.length cB] 63))
 have HR7:=sd (Kd.R_alloc HR6.out (.cells #[be.f0,be.f1,be.f2,.slice AB be.f3.length cB] 63))
 have hgb1:g≠w6.heap.size:=by have:=blk_lt HBK6.out;omega
 have hgb2:w6.heap.size≠g:=hgb1.symm
 clear hcv6 hcv5
 generalize hW7:w6.alloc (.cells #[be.f0,be.f1,be.f2,.slice AB be.f3.length cB] 63)=w7 at *
 generalize hb6:w6.heap.size=gb at *
 clear hW7 hb6
 generalize hn:x.votes.length=n at *
 have HLEN:=sd hn
 have HNN:=sd (show n≤1000 by rw [← hn];exact HG.out.votes)
 clear hn
 go_loopg [4,51] n (fun kq v4 v51 w'=>∃ (i:Nat),v51=.int .i64 (i:Int)∧v4=.int .i64 (mostOf (x.votes.take i))∧Aside0 (kq=n - i∧i≤n)∧Aside0 (Below w7.heap.size w7 w'))
 case atStart=>exact ⟨0,rfl,rfl,⟨by simp⟩,⟨Below.refl _ _⟩⟩
 case round =>
  obtain ⟨i,rfl,rfl,hi,HB⟩:=hrel
  by_cases hlt:i < n
  ·have hb1:decide ((i:Int) < (n:Int))=true:=decide_eq_true (by omega)
   have p1:(0:Int)≤(i:Int):=by omega
   have q1:(i:Int) < (n:Int):=by omega
   have HC:=sd (Kd.C_below HC7.out HB.out)
   obtain ⟨ad2,A3,c3,rfl,hy0,hy1,hy2,hy3,hly,hiy⟩:=at_T63 HC.out (i:Int) p1 q1
   simp only [Int.toNat_natCast] at hy0 hy1 hy2 hy3
   have HT1:=sd (show x.votes.take (i+1)=x.votes.take i++[rd_T63 x.votes (i:Int)] by
    have hlt2:i < x.votes.length:=by rw [HLEN.out];exact hlt
    rw [List.take_succ_eq_append_getElem hlt2]
    simp [rd_T63,List.getD_eq_getElem?_getD,List.getElem?_eq_getElem hlt2])
   replace p1:=eq_true p1
   replace q1:=eq_true q1
   generalize hv:rd_T63 x.votes (i:Int)=v at *
   clear hv hly hiy
   go_wp2
   go_roundg (n - (i+1))
   case measure=>have:=hi.out.1;omega
   case rel =>
    have hw:wrap64 ((i:Int)+1)=((i+1:Nat):Int):=by have:=HNN.out;have:=hi.out;unfold wrap64;omega
    refine ⟨i+1,by rw [hw],by rw [HT1.out,mostOf_append],⟨by have:=hi.out;omega,by omega⟩,⟨below_alloc HB.out _⟩⟩
  ·have hb1:decide ((i:Int) < (n:Int))=false:=decide_eq_false (by omega)
   have hie:i=n:=by have:=hi.out;omega
   subst hie
   have hmo:mostOf (x.votes.take i)=mostOf x.votes:=by rw [← HLEN.out,List.take_length]
   have HBBr:=sd ((HB.out.block gb (blk_lt HBB7.out)).trans HBB7.out)
   have HBKr:=sd ((HB.out.block g (blk_lt HBK7.out)).trans HBK7.out)
   have hz3:wr.cell? ⟨gb,3,none⟩=some (.slice AB be.f3.length cB):=blk_cell HBBr.out 3
   have hz5:wr.cell? ⟨g,5,none⟩=some (.int .i64 x.commit):=blk_cell HBKr.out 5
   have hz6:wr.cell? ⟨g,6,none⟩=some (.slice A6 x.log.length c6):=blk_cell HBKr.out 6
   have hf5:wr.frozen? ⟨g,5,none⟩=false:=blk_frozen HBKr.out 5
   have hf6:wr.frozen? ⟨g,6,none⟩=false:=blk_frozen HBKr.out 6
   have HDr:=sd (HD5.out.set_log (HB57.out.trans (below_weak HB.out HB57.out.size)) (Nat.le_refl _) (Kd.R_step HR7.out (fun k _ hk=>HB.out.block k hk)))
   rw [hmo]
   clear hmo
   have hq2:wr.cell? ⟨g,2,none⟩=some (.int .i64 x.view):=blk_cell HBKr.out 2
   have hq3:wr.cell? ⟨g,3,none⟩=some (.int .i64 x.last):=blk_cell HBKr.out 3
   have hq4:wr.cell? ⟨g,4,none⟩=some (.bool x.works):=blk_cell HBKr.out 4
   have hf3:wr.frozen? ⟨g,3,none⟩=false:=blk_frozen HBKr.out 3
   have hf4:wr.frozen? ⟨g,4,none⟩=false:=blk_frozen HBKr.out 4
   have HRISE:=sd (show x.rise={ x with log:=be.f3,commit:=(min (mostOf x.votes) (be.f3.length:Int)),works:=true,last:=x.view } by unfold Nod.rise;rw [HBE.out])
   have HG1:=sd (clear_good (rise_good HG.out HNE.out))
   have HG2:=sd (counts_good HG1.out)
   have HD9:=sd ((((HDr.out.set_commit (min (mostOf x.votes) (be.f3.length:Int))).drew).set_works true).set_last x.view)
   rw [← HRISE.out] at HD9
   go_wp2
   go_region
   go_wp2_with (first | (go_at_call 52;refine (clear_did x.rise w0 _ base g ok (by have:=HG.out.n1;show 0≤x.n;omega) HG.out.n2 HD9.out).mono ?_;rintro e w10 ⟨rfl,h10⟩;have HD10:=sd h10;clear h10) | (go_at_call 29;refine (counts_did x.rise.clear w0 _ base g ok HG1.out HD10.out).mono ?_;rintro e w11 ⟨rfl,h11⟩;have HD11:=sd h11;clear h11) | (go_at_call 30;refine (tell_did x.rise.clear.counts w0 _ base g ok (by have:=HG2.out.n1;omega) HG2.out.n2 HG2.out.told (by have:=HG2.out.log;omega) HD11.out).mono ?_;rintro e w12 ⟨rfl,h12⟩;have HD12:=sd h12;clear h12))
   all_goals
    go_end0
    exact ⟨rfl,HD12.out⟩
theorem begin_did2 (x:Nod) (w0 w:World) (base g:Nat) (ok:Nat→Prop) (hg:Good x) (h:Did w0 w base g ok x) :
  Calls Tryz.prog 35 #[.pointer (some ⟨g,0,none⟩)] w fun e w'=>e=.returned (.tuple #[])∧Did w0 w' base g ok x.begin_:=by
 cases hw:x.works with
 | true =>
  have he:x.begin_=x:=by unfold Nod.begin_ Nod.may;rw [hw];rfl
  rw [he];exact begin_works x w0 w base g ok hw h
 | false =>
  cases hp:x.prim x.view with
  | false =>
   have he:x.begin_=x:=by unfold Nod.begin_ Nod.may;rw [hw,hp];rfl
   rw [he];exact begin_other x w0 w base g ok hw hg.n1 hg.view hp h
  | true =>
   cases hen:enoughOf x.votes x.n with
   | false =>
    have he:x.begin_=x:=by unfold Nod.begin_ Nod.may;rw [hw,hp,hen];rfl
    rw [he];exact begin_few x w0 w base g ok hg hw hp hen h
   | true =>
    have he:x.begin_=x.rise.clear.counts.tell:=by unfold Nod.begin_ Nod.may;rw [hw,hp,hen];rfl
    rw [he];exact begin_may x w0 w base g ok hg hw hp hen h
@[reducible] def ldVotes (n:Nat):Op:=Op.load 24 (Operand.tmp n)
theorem ldVotes_eq (n:Nat):Op.load 24 (Operand.tmp n)=ldVotes n:=rfl
def voteOf (m:S28):S63:=⟨m.f1,m.f4,m.f5,m.f7⟩
def Nod.ownVote (x:Nod):S63:=⟨x.id,x.last,x.commit,x.log⟩
def Nod.joins (x:Nod) (view:Int):Nod:=x.join view [x.ownVote]
def Nod.votedFor (y:Nod) (m:S28):Nod:=Nod.begin_ { y with votes:=addTo y.votes (voteOf m) }
def Nod.vote (x:Nod) (m:S28):Nod:=if x.prim m.f3=true then (if m.f3 > x.view then (x.joins m.f3).votedFor m else if x.works=true then x.say (x.prep m.f1) else x.votedFor m) else x
theorem joins_good {x:Nod} (h:Good x) (view:Int) (hv:0≤view):Good (x.joins view):=⟨h.n1,h.n2,h.id0,h.id1,hv,h.log,by simp [Nod.joins,Nod.join,Nod.clear],by simp [Nod.joins,Nod.join],by
 intro v hv
 have:v=x.ownVote:=by simpa [Nod.joins,Nod.join] using hv
 subst this
 have:=h.id0;have:=h.id1;have:=h.n2;have:=h.log
 exact ⟨by show 0≤x.id;omega,by show x.id≤1000;omega,by show x.log.length≤1000;omega⟩,h.told⟩
theorem addTo_length (l:List S63) (v:S63):(addTo l v).length≤l.length+1:=by
 unfold addTo
 rw [List.length_append]
 have:=List.length_filter_le (fun y:S63=>decide (y.f0≠v.f0)) l
 simp only [List.length_singleton]
 omega
theorem add_good {y:Nod} (h:Good y) (v:S63) (hl:y.votes.length≤900) (hv:0≤v.f0∧v.f0≤1000∧v.f3.length≤1000):Good { y with votes:=addTo y.votes v }:=⟨h.n1,h.n2,h.id0,h.id1,h.view,h.log,h.acks,by have:=addTo_length y.votes v;show (addTo y.votes v).length≤1000;omega,by
 intro u hu
 have hu2:u∈addTo y.votes v:=hu
 unfold addTo at hu2
 rw [List.mem_append] at hu2
 rcases hu2 with hu2 | hu2
 ·exact h.each u (List.mem_filter.1 hu2).1
 ·rw [List.mem_singleton.1 hu2];exact hv,h.told⟩
theorem joins_did (x:Nod) (view:Int) (w0 w:World) (base g:Nat) (ok:Nat→Prop) (hg:Good x) (h:Did w0 w base g ok x) :
  Calls Tryz.prog 34 #[.pointer (some ⟨g,0,none⟩),view] w fun e w'=>e=.returned (.tuple #[])∧Did w0 w' base g ok (x.joins view) :=
 join_did 1 x view _ w0 w base g ok (by have:=hg.n1;omega) hg.n2 (add_of [] x.ownVote (by simp) hg.log (by simp)) h
theorem vote_not (x:Nod) (m:S28) (A:Option Addr) (c:Nat) (w0 w:World) (base g:Nat) (ok:Nat→Prop) (hg:Good x) (hk:m.f0=3) (hf:0≤m.f1) (hf2:m.f1 < x.n) (hmv:0≤m.f3) (hvl:x.votes.length≤900) (hc:m.f7.length≤c) (hl:m.f7.length≤1000) (hM:∀ W,Below base w0 W→Kd.C Kd.string W A m.f7.length m.f7) (hp:x.prim m.f3=false) (h:Did w0 w base g ok x) :
  Calls Tryz.prog 47 #[.pointer (some ⟨g,0,none⟩),.agg #[m.f0,m.f1,m.f2,m.f3,m.f4,m.f5,m.f6,.slice A m.f7.length c]] w fun e w'=>e=.returned (.tuple #[])∧Did w0 w' base g ok x:=by
 have hu56:=Tryz.underlying56
 have hu26:=Tryz.underlying26
 have hu28:=Tryz.underlying28
 have hu63:=Tryz.underlying63
 have HN:=sd h
 have HG:=sd hg
 have HD:=sd (h.boxed (.cells #[m.f0,m.f1,m.f2,m.f3,m.f4,m.f5,m.f6,.slice A m.f7.length c] 28))
 have HM:=sd hM
 have HCC:=sd hc
 have HL:=sd hl
 have HK:=sd hk
 have HF:=sd (And.intro hf hf2)
 have HMV:=sd hmv
 have HVL:=sd hvl
 have hlt:=h.1.lt
 obtain ⟨A6,c6,A7,c7,A8,c8,A9,c9,hb,-⟩:=HD.out.blk
 have HB:=sd hb
 have hc2:(w.alloc (.cells #[m.f0,m.f1,m.f2,m.f3,m.f4,m.f5,m.f6,.slice A m.f7.length c] 28)).cell? ⟨g,2,none⟩=some (.int .i64 x.view):=blk_cell hb 2
 have hc4:(w.alloc (.cells #[m.f0,m.f1,m.f2,m.f3,m.f4,m.f5,m.f6,.slice A m.f7.length c] 28)).cell? ⟨g,4,none⟩=some (.bool x.works):=blk_cell hb 4
 have hb3:(w.alloc (.cells #[m.f0,m.f1,m.f2,m.f3,m.f4,m.f5,m.f6,.slice A m.f7.length c] 28)).cell? ⟨w.heap.size,3,none⟩=some (.int .i64 m.f3):=blk_cell (x_alloc_new w _) 3
 have hne1:g≠w.heap.size:=by have:g < w.heap.size:=hlt;omega
 have hne2:w.heap.size≠g:=hne1.symm
 have HP:=sd (primary_calls x m.f3 (w.alloc (.cells #[m.f0,m.f1,m.f2,m.f3,m.f4,m.f5,m.f6,.slice A m.f7.length c] 28)) g (blk_cell hb 0) (blk_cell hb 1) hmv hg.n1)
 rw [hp] at HP
 clear hp
 clear hb h hlt hg hk hf hf2 hmv hvl hc hl hM
 go_enter Tryz.func47,Tryz.ntmps47
 go_wp2_with ((go_at_call 68;refine HP.out.mono ?_;rintro e w' ⟨rfl,⟨nd,rfl⟩⟩))
 refine bodyPost_ret (results_none rfl _ _ _) rfl ?_
 exact ⟨rfl,HN.out.unbox (HD.out.drewN _)⟩
def withinB (a m:Int):Bool:=decide (0≤a) && decide (a≤m)
theorem within_of (a m:Int):replica_within.f a m=some (withinB a m):=by
 unfold replica_within.f withinB
 split
 ·rename_i h;rw [decide_eq_true (show 0≤a from h)];rfl
 ·rename_i h;rw [decide_eq_false (show ¬ 0≤a from h)];rfl
theorem mwithin_of (a m:Int):msg_within.f a m=some (withinB a m):=by
 unfold msg_within.f withinB
 split
 ·rename_i h;rw [decide_eq_true (show 0≤a from h)];rfl
 ·rename_i h;rw [decide_eq_false (show ¬ 0≤a from h)];rfl
def longB (s:ByteArray):Bool:=decide ((s.size:Int) > 300)
theorem index_go (l:List ByteArray) (hl:l.length≤1000):∀ (j i k:Nat),i+j=l.length→j < k →
  ∃ r,slices_IndexFunc_string_string_msg_logged_1.l0 k l (l.length:Int) (i:Int)=some r∧decide (r≥0)=(l.drop i).any longB:=by
 intro j
 induction j with
 | zero =>
  intro i k hi hk
  obtain ⟨k,rfl⟩:∃ k',k=k'+1:=⟨k - 1,by omega⟩
  refine ⟨-1,?_,?_⟩
  ·unfold slices_IndexFunc_string_string_msg_logged_1.l0
   rw [if_neg (by omega)]
  ·rw [List.drop_eq_nil_of_le (by omega)];rfl
 | succ j ih =>
  intro i k hi hk
  obtain ⟨k,rfl⟩:∃ k',k=k'+1:=⟨k - 1,by omega⟩
  have hlt:i < l.length:=by omega
  have hrd:rdOf ByteArray.empty l (i:Int)=l[i]:=by simp [rdOf,List.getD_eq_getElem?_getD,List.getElem?_eq_getElem hlt]
  have hwr:wrap64 ((i:Int)+1)=((i+1:Nat):Int):=by unfold wrap64;omega
  have hd:l.drop i=l[i]::l.drop (i+1):=List.drop_eq_getElem_cons hlt
  have hm:msg_logged_1.f l[i]=some (longB l[i]):=rfl
  have hu:slices_IndexFunc_string_string_msg_logged_1.l0 (k+1) l (l.length:Int) (i:Int)=if longB l[i]=true then some (i:Int) else slices_IndexFunc_string_string_msg_logged_1.l0 k l (l.length:Int) ((i+1:Nat):Int):=by
   rw [slices_IndexFunc_string_string_msg_logged_1.l0,if_pos (by omega),if_pos (by omega),if_pos (by omega),hrd,hm,hwr]
   rfl
  rw [hu,hd,List.any_cons]
  cases hb:longB l[i] with
  | true=>exact ⟨(i:Int),by simp,by simp⟩
  | false =>
   obtain ⟨r,h1,h2⟩:=ih (i+1) k (by omega) (by omega)
   exact ⟨r,by simpa using h1,by simpa using h2⟩
def loggedB (l:List ByteArray) (c:Int):Bool:=decide ((l.length:Int)≤60) && (withinB c (l.length:Int) && !l.any longB)
theorem mlogged_of (k:Nat) (hk:100≤k) (l:List ByteArray) (c:Int):msg_logged.f k l c=some (loggedB l c):=by
 unfold msg_logged.f loggedB
 split
 ·rename_i h
  rw [decide_eq_true h,mwithin_of]
  simp only [Option.bind_some,Bool.true_and]
  cases hw:withinB c (l.length:Int) with
  | false=>rfl
  | true =>
   obtain ⟨r,h1,h2⟩:=index_go l (by omega) l.length 0 k (by omega) (by omega)
   have h3:slices_IndexFunc_string_string_msg_logged_1.f k l=some r:=h1
   unfold slices_ContainsFunc_string_string_msg_logged_1.f
   rw [h3]
   have h4:decide (r≥0)=l.any longB:=by simpa using h2
   simp only [Option.bind_some,if_true,Bool.true_and,h4]
 ·rename_i h
  rw [decide_eq_false h];rfl
def msgB (m:S28):Bool :=
 if withinB m.f1 6 && withinB m.f2 6 && withinB m.f3 1000000 then
  (if m.f0=1 then loggedB m.f7 m.f5 && decide (m.f4=0) && decide (m.f6=0)
  else if m.f0=2 then decide (m.f7.length=0) && decide (m.f5=0) && decide (m.f4=0) && withinB m.f6 60
  else if m.f0=3 then loggedB m.f7 m.f5 && withinB m.f4 m.f3 && decide (m.f6=0)
  else false)
 else false
theorem beq0 (a:Int):(a==0)=decide (a=0):=by
 by_cases h:a=0<;>simp [h]
theorem msg_of (k:Nat) (hk:101≤k) (m:S28):msg_Is.f k m.f0 m.f1 m.f2 m.f3 m.f4 m.f5 m.f6 m.f7=some (msgB m):=by
 obtain ⟨k,rfl⟩:∃ k',k=k'+1:=⟨k - 1,by omega⟩
 have hj0:∀ b,msg_Is.j0 (k+1) b m.f0 m.f1 m.f2 m.f3 m.f4 m.f5 m.f6 m.f7=some (if b=true then false else
  (if m.f0=1 then loggedB m.f7 m.f5 && decide (m.f4=0) && decide (m.f6=0)
  else if m.f0=2 then decide (m.f7.length=0) && decide (m.f5=0) && decide (m.f4=0) && withinB m.f6 60
  else if m.f0=3 then loggedB m.f7 m.f5 && withinB m.f4 m.f3 && decide (m.f6=0)
  else false)):=by
  intro b
  simp only [msg_Is.j0,mlogged_of k (by omega),mwithin_of,Option.bind_some,beq0]
  cases b with
  | true=>rfl
  | false =>
   simp only [Bool.false_eq_true,if_false]
   by_cases h1:m.f0=1
   ·simp only [if_pos h1]
    cases loggedB m.f7 m.f5 with
    | false=>simp
    | true=>by_cases h4:m.f4=0<;>simp [h4]
   ·simp only [if_neg h1]
    by_cases h2:m.f0=2
    ·simp only [if_pos h2]
     by_cases h7:m.f7.length=0
     ·by_cases h5:m.f5=0
      ·by_cases h4:m.f4=0<;>simp [h7,h5,h4]
      ·simp [h7,h5]
     ·simp [h7]
    ·simp only [if_neg h2]
     by_cases h3:m.f0=3
     ·simp only [if_pos h3]
      cases loggedB m.f7 m.f5 with
      | false=>simp
      | true=>cases withinB m.f4 m.f3<;>simp
     ·simp only [if_neg h3]
 unfold msg_Is.f msgB
 rw [mwithin_of,mwithin_of,mwithin_of]
 simp only [Option.bind_some,hj0]
 cases withinB m.f1 6 with
 | false=>simp
 | true =>
  cases withinB m.f2 6 with
  | false=>simp
  | true=>cases withinB m.f3 1000000<;>simp
theorem logged_of (k:Nat) (hk:101≤k) (l:List ByteArray) (c:Int) (hl:l.length < 4398046511104):replica_logged.f k l c=some (loggedB l c):=by
 unfold replica_logged.f
 rw [prepare_of 0 0 0 c l hl]
 have h:=msg_of k hk ⟨1,0,0,0,0,c,0,l⟩
 have e:msgB ⟨1,0,0,0,0,c,0,l⟩=loggedB l c:=by
  unfold msgB
  have h6:(withinB 0 6 && withinB 0 6 && withinB 0 1000000)=true:=by decide
  rw [if_pos h6,if_pos rfl]
  simp
 rw [e] at h
 simp only [Option.bind_some]
 exact congrArg (fun o=>o.bind fun t146=>some t146) h
def sizeB (n:Int):Bool:=decide (n=1) || decide (n=3) || decide (n=5) || decide (n=7)
theorem size_of (n:Int):replica_size.f n=some (sizeB n):=by
 unfold replica_size.f sizeB
 split
 ·rename_i h;subst h;rfl
 ·split
  ·rename_i h;subst h;rfl
  ·split
   ·rename_i h;subst h;rfl
   ·rename_i h1 h3 h5
    have h7:(n==7)=decide (n=7):=by by_cases h:n=7<;>simp [h]
    simp [h1,h3,h5,h7]
def viewsB (x:Nod):Bool:=withinB x.view 1000000 && withinB x.last x.view && (!x.works || decide (x.last=x.view))
def votesB (n view:Int):List S63→List Int→Bool
 | [],_=>true
 | v::l,seen=>if seen.contains v.f0 || !withinB v.f0 (n - 1) || !withinB v.f1 view || !loggedB v.f3 v.f2 then false else votesB n view l (v.f0::seen)
def frontB (x:Nod):Bool:=sizeB x.n && withinB x.id (x.n - 1) && viewsB x && loggedB x.log x.commit && decide ((x.acks.length:Int)=x.n) && decide ((x.votes.length:Int)≤x.n)
def isB (x:Nod):Bool:=frontB x && x.acks.all (fun a=>withinB a (x.log.length:Int)) && votesB x.n x.view x.votes []
end Go.Proofs.YtfpfpckocemmdaaGreat.P
