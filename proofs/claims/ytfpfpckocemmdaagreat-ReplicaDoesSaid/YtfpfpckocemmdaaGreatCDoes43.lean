/- Part 43 of the walk. -/
import Derived.Test.YtfpfpckocemmdaaGreatCDoes42
set_option linter.unusedVariables false
set_option linter.unusedSimpArgs false
set_option maxHeartbeats 8000000
set_option maxRecDepth 100000
namespace Go.Proofs.YtfpfpckocemmdaaGreat.P
open Go.RowKit Go.Proofs.YtfpfpckocemmdaaGreatW.PrintWords Go.Proofs.YtfpfpckocemmdaaGreatW.PrintLast Go.Proofs.YtfpfpckocemmdaaGreatW.PrintMore
section
attribute [local go_sem] max2_int min2_int max_two min_two max_three min_three max_four min_four
theorem rown_calls (x:Nod) (A6 A7 A8:Option Addr) (c6 c7 c8:Nat) (w:World) (h:Arg w x A6 A7 A8 c6 c7 c8) (hl:x.log.length≤1000) (ha:x.acks.length≤1000) (K:Nat) (hv:sextonref22_Own.f K x.votes=some x.votes) :
  Calls Tryz.prog 5 #[.agg #[.int .i64 x.id,.int .i64 x.n,.int .i64 x.view,.int .i64 x.last,.bool x.works,.int .i64 x.commit,.slice A6 x.log.length c6,.slice A7 x.acks.length c7,.slice A8 x.votes.length c8]] w fun e w'=>∃ v6 v7 v8,e=.returned (.agg #[.int .i64 x.id,.int .i64 x.n,.int .i64 x.view,.int .i64 x.last,.bool x.works,.int .i64 x.commit,v6,v7,v8])∧Res w' w.heap.size { x with told:=[] } v6 v7 v8 (.slice none 0 0)∧Below w.heap.size w w':=by
 have hu26:=Tryz.underlying26
 have hu22:=Tryz.underlying22
 have hu23:=Tryz.underlying23
 have hu24:=Tryz.underlying24
 have HA:=Aside0.mk h
 have HL:=Aside0.mk (And.intro hl ha)
 have HV:=Aside0.mk hv
 clear h hl ha hv
 go_enter Tryz.func5,Tryz.ntmps5
 have HX:=Aside0.mk ((below_alloc (Below.refl _ _) (.cells #[.int .i64 0,.int .i64 0,.int .i64 0,.int .i64 0,.bool false,.int .i64 0,.slice none 0 0,.slice none 0 0,.slice none 0 0] 26)).block _ (blk_lt (x_alloc_new w (.cells #[.int .i64 x.id,.int .i64 x.n,.int .i64 x.view,.int .i64 x.last,.bool x.works,.int .i64 x.commit,.slice A6 x.log.length c6,.slice A7 x.acks.length c7,.slice A8 x.votes.length c8] 26))) |>.trans (x_alloc_new w (.cells #[.int .i64 x.id,.int .i64 x.n,.int .i64 x.view,.int .i64 x.last,.bool x.works,.int .i64 x.commit,.slice A6 x.log.length c6,.slice A7 x.acks.length c7,.slice A8 x.votes.length c8] 26)))
 have HZ:=Aside0.mk (alloc2_new w (.cells #[.int .i64 x.id,.int .i64 x.n,.int .i64 x.view,.int .i64 x.last,.bool x.works,.int .i64 x.commit,.slice A6 x.log.length c6,.slice A7 x.acks.length c7,.slice A8 x.votes.length c8] 26) (.cells #[.int .i64 0,.int .i64 0,.int .i64 0,.int .i64 0,.bool false,.int .i64 0,.slice none 0 0,.slice none 0 0,.slice none 0 0] 26))
 have HB:=Aside0.mk (below_alloc (below_alloc (Below.refl w.heap.size w) (.cells #[.int .i64 x.id,.int .i64 x.n,.int .i64 x.view,.int .i64 x.last,.bool x.works,.int .i64 x.commit,.slice A6 x.log.length c6,.slice A7 x.acks.length c7,.slice A8 x.votes.length c8] 26)) (.cells #[.int .i64 0,.int .i64 0,.int .i64 0,.int .i64 0,.bool false,.int .i64 0,.slice none 0 0,.slice none 0 0,.slice none 0 0] 26))
 have HR:=Aside0.mk (show Res ((w.alloc (.cells #[.int .i64 x.id,.int .i64 x.n,.int .i64 x.view,.int .i64 x.last,.bool x.works,.int .i64 x.commit,.slice A6 x.log.length c6,.slice A7 x.acks.length c7,.slice A8 x.votes.length c8] 26)).alloc (.cells #[.int .i64 0,.int .i64 0,.int .i64 0,.int .i64 0,.bool false,.int .i64 0,.slice none 0 0,.slice none 0 0,.slice none 0 0] 26)) w.heap.size { x with log:=[],acks:=[],votes:=[],told:=[] } (.slice none 0 0) (.slice none 0 0) (.slice none 0 0) (.slice none 0 0) from res_zero _ _)
 have p6:((w.alloc (.cells #[.int .i64 x.id,.int .i64 x.n,.int .i64 x.view,.int .i64 x.last,.bool x.works,.int .i64 x.commit,.slice A6 x.log.length c6,.slice A7 x.acks.length c7,.slice A8 x.votes.length c8] 26)).alloc (.cells #[.int .i64 0,.int .i64 0,.int .i64 0,.int .i64 0,.bool false,.int .i64 0,.slice none 0 0,.slice none 0 0,.slice none 0 0] 26)).cell? ⟨w.heap.size,6,none⟩=some (.slice A6 x.log.length c6):=blk_cell HX.out 6
 go_wp2_with (fail)
 clear p6
 generalize ((w.alloc (.cells #[.int .i64 x.id,.int .i64 x.n,.int .i64 x.view,.int .i64 x.last,.bool x.works,.int .i64 x.commit,.slice A6 x.log.length c6,.slice A7 x.acks.length c7,.slice A8 x.votes.length c8] 26)).alloc (.cells #[.int .i64 0,.int .i64 0,.int .i64 0,.int .i64 0,.bool false,.int .i64 0,.slice none 0 0,.slice none 0 0,.slice none 0 0] 26))=V0 at HX HZ HB HR ⊢
 have hne:w.heap.size+1≠w.heap.size:=by omega
 have hge:w.heap.size≤w.heap.size:=Nat.le_refl _
 go_at_call 24
 refine (sextonref01_Own.calls A6 c6 x.log x.log V0 (Kd.C_below HA.out.h6 HB.out) HA.out.l6 (if_pos (by have:=HL.out;simp;omega))).mono ?_
 rintro e w1 ⟨v6,rfl,hr,hb⟩
 obtain ⟨B6,d6,rfl⟩:=Kd.R_slice hr
 replace HR:=Aside0.mk (HR.out.with_log hb HB.out.size hr)
 replace HX:=Aside0.mk ((hb.block _ (blk_lt HX.out)).trans HX.out)
 replace HZ:=Aside0.mk ((hb.block _ (blk_lt HZ.out)).trans HZ.out)
 replace HB:=Aside0.mk (below_step HB.out hb)
 have q6:w1.cell? ⟨w.heap.size,6,none⟩=some (.slice A6 x.log.length c6):=blk_cell HX.out 6
 have f6:w1.frozen? ⟨w.heap.size,6,none⟩=false:=blk_frozen HX.out 6
 replace HR:=Aside0.mk (HR.out.set HX.out 6 (.slice B6 x.log.length d6))
 replace HZ:=Aside0.mk (blk_far (p:=⟨w.heap.size,6,none⟩) HZ.out hne (.slice B6 x.log.length d6))
 replace HX:=Aside0.mk (blk_put (cs':=#[.int .i64 x.id,.int .i64 x.n,.int .i64 x.view,.int .i64 x.last,.bool x.works,.int .i64 x.commit,.slice B6 x.log.length d6,.slice A7 x.acks.length c7,.slice A8 x.votes.length c8]) HX.out 6 (.slice B6 x.log.length d6) rfl)
 replace HB:=Aside0.mk (below_at (g:=w.heap.size) (j:=6) (v:=.slice B6 x.log.length d6) HB.out hge)
 have p7:(w1.setCell ⟨w.heap.size,6,none⟩ (.slice B6 x.log.length d6)).cell? ⟨w.heap.size,7,none⟩=some (.slice A7 x.acks.length c7):=blk_cell HX.out 7
 clear hb hr
 go_wp2_with (((with_reducible refine gate_builtin (b:=.append) (xs:=#[.tmp 8,.tmp 10]) rfl ?_);at_builtin;refine Kd.R_append_rows (Kd.int .i64) (w0:=(w1.setCell ⟨w.heap.size,6,none⟩ (.slice B6 x.log.length d6))) ((w1.setCell ⟨w.heap.size,6,none⟩ (.slice B6 x.log.length d6)):World).heap.size rfl (.tmp 8) (.tmp 10) 23 3 (.int .i64 0) 8 rfl hu23 info3 rfl (by decide) (by omega) (.slice none 0 0) ([]:List Int) x.acks _ _ _ (fun _=>True) (fun _=>False) rfl rfl ?aO ?aR (fun _ _ h=>h) (fun _ h=>h.elim) ?aF ?aB ?aS ?aL ?_;(case aR=>exact Kd.C_below HA.out.h7 HB.out);(case aB=>exact Below.refl _ _);(case aF=>exact (fun _ _=>trivial));(case aO=>exact ((Kd.R_nil _ _ _ _ (fun _=>True))));(case aS=>exact Nat.le_refl _);(case aL=>have:=HL.out;simp;omega);intro vk w2 hr hb hg hat;rw [List.nil_append] at hr;obtain ⟨B7,d7,rfl⟩:=Kd.R_slice hr;replace HR:=Aside0.mk (HR.out.with_acks hb HB.out.size hr);replace HX:=Aside0.mk ((hb.block _ (blk_lt HX.out)).trans HX.out);replace HZ:=Aside0.mk ((hb.block _ (blk_lt HZ.out)).trans HZ.out);replace HB:=Aside0.mk (below_step HB.out hb);clear hb hg hat hr;clear p7 q6 f6;have q7:w2.cell? ⟨w.heap.size,7,none⟩=some (.slice A7 x.acks.length c7):=blk_cell HX.out 7;have f7:w2.frozen? ⟨w.heap.size,7,none⟩=false:=blk_frozen HX.out 7;replace HR:=Aside0.mk (HR.out.set HX.out 7 (.slice B7 x.acks.length d7));replace HZ:=Aside0.mk (blk_far (p:=⟨w.heap.size,7,none⟩) HZ.out hne (.slice B7 x.acks.length d7));replace HX:=Aside0.mk (blk_put (cs':=#[.int .i64 x.id,.int .i64 x.n,.int .i64 x.view,.int .i64 x.last,.bool x.works,.int .i64 x.commit,.slice B6 x.log.length d6,.slice B7 x.acks.length d7,.slice A8 x.votes.length c8]) HX.out 7 (.slice B7 x.acks.length d7) rfl);replace HB:=Aside0.mk (below_at (g:=w.heap.size) (j:=7) (v:=.slice B7 x.acks.length d7) HB.out hge);have p8:(w2.setCell ⟨w.heap.size,7,none⟩ (.slice B7 x.acks.length d7)).cell? ⟨w.heap.size,8,none⟩=some (.slice A8 x.votes.length c8):=blk_cell HX.out 8))
 clear q7 f7 p8
 generalize (w2.setCell ⟨w.heap.size,7,none⟩ (.slice B7 x.acks.length d7))=W2 at HX HZ HB HR ⊢
 go_at_call 25
 refine (sextonref22_Own.calls K A8 c8 x.votes x.votes W2 (Kd.C_below HA.out.h8 HB.out) HA.out.l8 HV.out).mono ?_
 rintro e w3 ⟨v8,rfl,hr,hb⟩
 obtain ⟨B8,d8,rfl⟩:=Kd.S_slice hr
 replace HR:=Aside0.mk (HR.out.with_votes hb HB.out.size hr)
 replace HX:=Aside0.mk ((hb.block _ (blk_lt HX.out)).trans HX.out)
 replace HZ:=Aside0.mk ((hb.block _ (blk_lt HZ.out)).trans HZ.out)
 replace HB:=Aside0.mk (below_step HB.out hb)
 clear hb hr
 have q8:w3.cell? ⟨w.heap.size,8,none⟩=some (.slice A8 x.votes.length c8):=blk_cell HX.out 8
 have f8:w3.frozen? ⟨w.heap.size,8,none⟩=false:=blk_frozen HX.out 8
 replace HR:=Aside0.mk (HR.out.set HX.out 8 (.slice B8 x.votes.length d8))
 replace HZ:=Aside0.mk (blk_far (p:=⟨w.heap.size,8,none⟩) HZ.out hne (.slice B8 x.votes.length d8))
 replace HX:=Aside0.mk (blk_put (cs':=#[.int .i64 x.id,.int .i64 x.n,.int .i64 x.view,.int .i64 x.last,.bool x.works,.int .i64 x.commit,.slice B6 x.log.length d6,.slice B7 x.acks.length d7,.slice B8 x.votes.length d8]) HX.out 8 (.slice B8 x.votes.length d8) rfl)
 replace HB:=Aside0.mk (below_at (g:=w.heap.size) (j:=8) (v:=.slice B8 x.votes.length d8) HB.out hge)
 have p0:(w3.setCell ⟨w.heap.size,8,none⟩ (.slice B8 x.votes.length d8)).cell? ⟨w.heap.size,0,none⟩=some (.int .i64 x.id):=blk_cell HX.out 0
 have p1:(w3.setCell ⟨w.heap.size,8,none⟩ (.slice B8 x.votes.length d8)).cell? ⟨w.heap.size,1,none⟩=some (.int .i64 x.n):=blk_cell HX.out 1
 have p2:(w3.setCell ⟨w.heap.size,8,none⟩ (.slice B8 x.votes.length d8)).cell? ⟨w.heap.size,2,none⟩=some (.int .i64 x.view):=blk_cell HX.out 2
 have p3:(w3.setCell ⟨w.heap.size,8,none⟩ (.slice B8 x.votes.length d8)).cell? ⟨w.heap.size,3,none⟩=some (.int .i64 x.last):=blk_cell HX.out 3
 have p4:(w3.setCell ⟨w.heap.size,8,none⟩ (.slice B8 x.votes.length d8)).cell? ⟨w.heap.size,4,none⟩=some (.bool x.works):=blk_cell HX.out 4
 have p5:(w3.setCell ⟨w.heap.size,8,none⟩ (.slice B8 x.votes.length d8)).cell? ⟨w.heap.size,5,none⟩=some (.int .i64 x.commit):=blk_cell HX.out 5
 have p6:(w3.setCell ⟨w.heap.size,8,none⟩ (.slice B8 x.votes.length d8)).cell? ⟨w.heap.size,6,none⟩=some (.slice B6 x.log.length d6):=blk_cell HX.out 6
 have p7:(w3.setCell ⟨w.heap.size,8,none⟩ (.slice B8 x.votes.length d8)).cell? ⟨w.heap.size,7,none⟩=some (.slice B7 x.acks.length d7):=blk_cell HX.out 7
 have p8:(w3.setCell ⟨w.heap.size,8,none⟩ (.slice B8 x.votes.length d8)).cell? ⟨w.heap.size,8,none⟩=some (.slice B8 x.votes.length d8):=blk_cell HX.out 8
 have z0:(w3.setCell ⟨w.heap.size,8,none⟩ (.slice B8 x.votes.length d8)).cell? ⟨w.heap.size+1,0,none⟩=some (.int .i64 0):=blk_cell HZ.out 0
 have z1:(w3.setCell ⟨w.heap.size,8,none⟩ (.slice B8 x.votes.length d8)).cell? ⟨w.heap.size+1,1,none⟩=some (.int .i64 0):=blk_cell HZ.out 1
 have z2:(w3.setCell ⟨w.heap.size,8,none⟩ (.slice B8 x.votes.length d8)).cell? ⟨w.heap.size+1,2,none⟩=some (.int .i64 0):=blk_cell HZ.out 2
 have z3:(w3.setCell ⟨w.heap.size,8,none⟩ (.slice B8 x.votes.length d8)).cell? ⟨w.heap.size+1,3,none⟩=some (.int .i64 0):=blk_cell HZ.out 3
 have z4:(w3.setCell ⟨w.heap.size,8,none⟩ (.slice B8 x.votes.length d8)).cell? ⟨w.heap.size+1,4,none⟩=some (.bool false):=blk_cell HZ.out 4
 have z5:(w3.setCell ⟨w.heap.size,8,none⟩ (.slice B8 x.votes.length d8)).cell? ⟨w.heap.size+1,5,none⟩=some (.int .i64 0):=blk_cell HZ.out 5
 have z6:(w3.setCell ⟨w.heap.size,8,none⟩ (.slice B8 x.votes.length d8)).cell? ⟨w.heap.size+1,6,none⟩=some (.slice none 0 0):=blk_cell HZ.out 6
 have z7:(w3.setCell ⟨w.heap.size,8,none⟩ (.slice B8 x.votes.length d8)).cell? ⟨w.heap.size+1,7,none⟩=some (.slice none 0 0):=blk_cell HZ.out 7
 have z8:(w3.setCell ⟨w.heap.size,8,none⟩ (.slice B8 x.votes.length d8)).cell? ⟨w.heap.size+1,8,none⟩=some (.slice none 0 0):=blk_cell HZ.out 8
 have fz:∀ j,(w3.setCell ⟨w.heap.size,8,none⟩ (.slice B8 x.votes.length d8)).frozen? ⟨w.heap.size+1,j,none⟩=false:=fun j=>blk_frozen HZ.out j
 go_wp2_with (fail)
 have hret:=ret_row HZ.out (.int .i64 x.id) (.int .i64 x.n) (.int .i64 x.view) (.int .i64 x.last) (.bool x.works) (.int .i64 x.commit) (.slice B6 x.log.length d6) (.slice B7 x.acks.length d7) (.slice B8 x.votes.length d8)
 refine bodyPost_ret (results_cell_row rfl _ _ (w.heap.size+1) 26 #[.int .i64 x.id,.int .i64 x.n,.int .i64 x.view,.int .i64 x.last,.bool x.works,.int .i64 x.commit,.slice B6 x.log.length d6,.slice B7 x.acks.length d7,.slice B8 x.votes.length d8] (0,0) _ rfl hret.1 Tryz.underlying26 rfl (by kernel_rfl)) rfl ?_
 exact ⟨_,_,_,rfl,hret.2.1 _ _ _ _ _ _ HR.out,hret.2.2 _ _ HB.out (by omega)⟩
end
section
attribute [local go_sem] max2_mx min2_mn max_two min_two max_three min_three max_four min_four
section
variable {w0 w W W1:World} {Q:Nat→Prop} {gx gm gz n tm:Nat} {cx cm cz:Array Value} {y:Nod} {v6 v7 v8:Value}
theorem Fr.all33 {ops:Array Oper} {o:Oper} {a:Act} {K:Act→World→Prop} {Qx:Exit→Act→World→Prop} {E:Prop} {xs:Array Operand} {ts:Array TypeId} (h:Fr w0 w W Q gx gm gz n tm cx cm cz y v6 v7 v8) (hn:y.n≤1000) (hl:y.log.length≤1000) (hgd:o.guard=none) (hop:o.op=.call { callee:=.value (.func 33),args:=xs,argTypes:=ts }) (hargs:xs.map a.eval=#[ag y v6 v7 v8]) (k:∀ A c V,Fr w0 w V Q gx gm gz n tm cx cm cz y v6 v7 v8→Row9 V (Qn Q w n) (.slice A (y.upto y.n.toNat).length c) (y.upto y.n.toNat)→K (a.put o.dst (.slice A (y.upto y.n.toNat).length c)) V):if Region.wanted o (yielded ops a.tmps)=true then Oper.wp Tryz.prog o a W K Qx else E:=by
 obtain ⟨A6,c6,A7,c7,A8,c8,rfl,rfl,rfl⟩:=h.slices
 refine x_step_call hgd Tryz.func33 (by kernel_rfl) rfl _ hop hargs ((rall_calls y hn hl h.o).mono ?_)
 rintro e w8 ⟨u9,rfl,hS,hb⟩
 obtain ⟨D9,k9,rfl⟩:=Kd.S_slice hS
 exact ⟨_,rfl,k D9 k9 w8 (h.call hb) (row9_S hS (fun k hk _=>.inr (Nat.le_trans h.s hk)))⟩
end
theorem sl7 {W:World} {base:Nat} {Q:Nat→Prop} {y:Nod} {A:Option Addr} {n c:Nat} {v6 v8:Value} (h:Own3 W base Q y v6 (.slice A n c) v8):Kd.C (Kd.int .i64) W A y.acks.length y.acks∧y.acks.length≤c:=by
 obtain ⟨A6,c6,A7,c7,A8,c8,-,e,-,-,l7,-,-,h7,-⟩:=h.reads
 cases e;exact ⟨h7,l7⟩
theorem rcount_calls (x:Nod) (hg:Good x) (Q:Nat→Prop) (v6 v7 v8:Value) (w0 w:World) (hB:Below w0.heap.size w0 w) (h:Own3 w w0.heap.size Q x v6 v7 v8) :
  Calls Tryz.prog 32 #[ag x v6 v7 v8] w (RN w0 w Q x.counts):=by
 have hu26:=Tryz.underlying26
 have hu22:=Tryz.underlying22
 have hu23:=Tryz.underlying23
 have hu24:=Tryz.underlying24
 obtain ⟨A6,c6,A7,c7,A8,c8,rfl,rfl,rfl,-⟩:=h.reads
 have H:=fr2 hB h
 obtain ⟨z,hz⟩:∃ z,z=x.counts:=⟨_,rfl⟩
 rw [← hz]
 replace hz:=Aside0.mk hz
 dsimp only [ag,row9,zer9] at H ⊢
 clear h hB
 go_enter Tryz.func32,Tryz.ntmps32
 go_upto_region 1 with (fail)
 refine H.gen ?_;clear H;intro V H
 obtain ⟨p0,p1,p2,p3,p4,p5,p6,p7,p8,fx⟩:=H.xs
 go_wp2_with (fail)
 clear p0 p1 p2 p3 p4 p5 p6 p7 p8 fx
 go_at_call 31
 refine (rleads_calls x A6 A7 A8 _ _ _ c6 c7 c8 V hg.view hg.n1).mono ?_
 rintro e w1 ⟨rfl,hb⟩
 replace H:=H.call hb
 clear hb
 cases hL:x.leads
 ·obtain ⟨p0,p1,p2,p3,p4,p5,p6,p7,p8,fx⟩:=H.xs
  obtain ⟨z0,z1,z2,z3,z4,z5,z6,z7,z8,fz⟩:=H.zs
  go_wp2_with (fail)
  rw [hz.out,show x.counts=x from by unfold Nod.counts Nod.count;rw [hL];rfl]
  exact H.done1 rfl rfl rfl rfl
 ·have hal:x.id < (x.acks.length:Int):=by have:=hg.id1;have:=hg.n1;rw [hg.acks];omega
  obtain ⟨ga,d7,e7,hx,hfz,hq,hlt,hge⟩:=H.o.cell7 x.id hg.id0 hal
  cases e7
  have g2:w.heap.size≠ga:=by rcases hq with hq | hq<;>omega
  have g1:=g2.symm
  have p1':=eq_true hg.id0
  have q1':=eq_true hal
  obtain ⟨p0,p1,p2,p3,p4,p5,p6,p7,p8,fx⟩:=H.xs
  go_upto_region 3 with (fail)
  have H2:=H.callK (y1:={ x with acks:=x.acks.set x.id.toNat (x.log.length:Int) }) ((H.o.set_ack x.id (x.log.length:Int)).mono (fun k h _=>.inl h)) (below_at H.b hge) (Nat.le_of_eq (size1 ..).symm) (fun k h1 h2=>keep1 k (fun e=>h2 (by rw [show k=ga from e];exact hq)) _)
  refine H2.gen ?_
  clear H H2 hx hfz hq hlt hge g1 g2 p1' q1' hal p0 p1 p2 p3 p4 p5 p6 p7 p8 fx
  intro V2 H
  have hlen:(x.acks.set x.id.toNat (x.log.length:Int)).length=x.acks.length:=List.length_set
  have ho:=H.o
  replace hz:=Aside0.mk (show z={ ({ x with acks:=x.acks.set x.id.toNat (x.log.length:Int) } : Nod) with commit:=max x.commit (commitOf (x.acks.set x.id.toNat (x.log.length:Int))) } by rw [hz.out];unfold Nod.counts Nod.count;rw [hL];rfl)
  obtain ⟨k,hk⟩:=(rcommit_f (x.acks.set x.id.toNat (x.log.length:Int)) (by rw [hlen,hg.acks];have:=hg.n2;omega)).rounds
  have hc:=fun W (h:Own3 W w0.heap.size (Qn Q w (w.heap.size+1+1)) { x with acks:=x.acks.set x.id.toNat (x.log.length:Int) } (.slice A6 x.log.length c6) (.slice (some ⟨ga,0,none⟩) x.acks.length c7) (.slice A8 x.votes.length c8))=>sextonref22_Commit.calls k (some ⟨ga,0,none⟩) c7 _ _ W (sl7 h).1 (sl7 h).2 hk
  rw [hlen] at hc
  generalize commitOf (x.acks.set x.id.toNat (x.log.length:Int))=cm at hz hc
  clear hlen hk ho
  go_cut [] (fun wx=>H.to z wx)
  case first =>
   replace H:=H.drew
   obtain ⟨p0,p1,p2,p3,p4,p5,p6,p7,p8,fx⟩:=H.xs
   go_region_law (first | (refine x_step_call rfl Tryz.func71 (by kernel_rfl) rfl #[.slice (some ⟨ga,0,none⟩) x.acks.length c7] rfl (by simp [Act.eval,Act.put]) ?_;refine (hc _ H.o).mono ?_;rintro e w3 ⟨rfl,hb⟩;replace H:=H.call hb;obtain ⟨p0,p1,p2,p3,p4,p5,p6,p7,p8,fx⟩:=H.xs;refine ⟨_,rfl,?_⟩))
   all_goals
    go_wp2
    go_meet
    rw [hz.out]
    exact ⟨_,_,_,(H.put1 5 _ rfl).as (y1:={ ({ x with acks:=x.acks.set x.id.toNat (x.log.length:Int) } : Nod) with commit:=max x.commit cm }) rfl rfl rfl rfl⟩
  obtain ⟨u6,u7,u8,H⟩:=hcut
  obtain ⟨E6,j6,E7,j7,E8,j8,rfl,rfl,rfl⟩:=H.slices
  obtain ⟨p0,p1,p2,p3,p4,p5,p6,p7,p8,fx⟩:=H.xs
  obtain ⟨z0,z1,z2,z3,z4,z5,z6,z7,z8,fz⟩:=H.zs
  go_wp2_with (fail)
  exact H.done1 rfl rfl rfl rfl
theorem rjoin_calls (x:Nod) (v:Int) (hn:1≤x.n) (hn2:x.n≤1000) (hl:x.log.length≤1000) (Q:Nat→Prop) (v6 v7 v8:Value) (w0 w:World) (hB:Below w0.heap.size w0 w) (h:Own3 w w0.heap.size Q x v6 v7 v8) :
  Calls Tryz.prog 39 #[ag x v6 v7 v8,.int .i64 v] w (RN w0 w Q (x.joins v)):=by
 have hu26:=Tryz.underlying26
 have hu22:=Tryz.underlying22
 have hu23:=Tryz.underlying23
 have hu24:=Tryz.underlying24
 have hu63:=Tryz.underlying63
 obtain ⟨A6,c6,A7,c7,A8,c8,rfl,rfl,rfl,-⟩:=h.reads
 have H:=fr2 hB h
 obtain ⟨z,hz⟩:∃ z,z=x.joins v:=⟨_,rfl⟩
 rw [← hz]
 replace hz:=Aside0.mk hz
 dsimp only [ag,row9,zer9] at H ⊢
 clear h hB
 go_enter Tryz.func39,Tryz.ntmps39
 go_upto_region 1 with (fail)
 refine H.gen ?_;clear H;intro V H
 obtain ⟨p0,p1,p2,p3,p4,p5,p6,p7,p8,fx⟩:=H.xs
 go_upto_region 3 with (fail)
 refine H.put2k rfl ?_
 clear H p0 p1 p2 p3 p4 p5 p6 p7 p8 fx
 intro V H
 replace H:=H.as (y1:={ x with view:=v,works:=false }) rfl rfl rfl rfl
 obtain ⟨p0,p1,p2,p3,p4,p5,p6,p7,p8,fx⟩:=H.xs
 go_upto_region 4 with (refine H.make7 (N:=10) rfl rfl rfl rfl rfl hn hn2 ?_;clear H p0 p1 p2 p3 p4 p5 p6 p7 p8 fx;intro B7 d7 V H;obtain ⟨p0,p1,p2,p3,p4,p5,p6,p7,p8,fx⟩:=H.xs)
 refine H.put1k rfl ?_
 clear H p0 p1 p2 p3 p4 p5 p6 p7 p8 fx
 intro V H
 obtain ⟨p0,p1,p2,p3,p4,p5,p6,p7,p8,fx⟩:=H.xs
 go_wp2_with (fail)
 clear p0 p1 p2 p3 p4 p5 p6 p7 p8 fx
 go_at_call 42
 refine (rvote_calls { x with view:=v,works:=false,acks:=List.replicate x.n.toNat 0 } A6 B7 A8 _ _ c6 d7 c8 V (sl6 H.o).1 (sl6 H.o).2 hl).mono ?_
 rintro e w5 ⟨v3,rfl,hr3,hb⟩
 obtain ⟨C3,c3,rfl⟩:=Kd.R_slice hr3
 have K:=H.call hb
 obtain ⟨p0,p1,p2,p3,p4,p5,p6,p7,p8,fx⟩:=(K.al (.cells #[.int .i64 x.id,.int .i64 x.last,.int .i64 x.commit,.slice C3 x.log.length c3] 63)).xs
 go_upto_region 5 with (fail)
 clear p0 p1 p2 p3 p4 p5 p6 p7 p8 fx K
 have hb2:=below_alloc hb (.cells #[.int .i64 x.id,.int .i64 x.last,.int .i64 x.commit,.slice C3 x.log.length c3] 63)
 have hS:=s63_one (v:=x.ownVote) (x_alloc_new w5 (.cells #[.int .i64 x.id,.int .i64 x.last,.int .i64 x.commit,.slice C3 x.log.length c3] 63)) hb.size (Kd.R_mono (Kd.R_below (Kd.R_bound hr3) (below_alloc (Below.refl _ _) _)) (fun k hk=>by have:=hk.2.2.1;omega))
 have hs:=H.s
 refine (((H.call hb2).own (H.o.with_votes hb2 hS (fun k hk=>.inr (Nat.le_trans hs hk)))).put1 8 (.slice (some ⟨w5.heap.size,0,none⟩) 1 1) rfl).gen ?_
 clear H hb hb2 hS hr3 hs
 intro V H
 replace H:=H.as (y1:=x.joins v) rfl rfl rfl rfl
 obtain ⟨p0,p1,p2,p3,p4,p5,p6,p7,p8,fx⟩:=H.xs
 obtain ⟨z0,z1,z2,z3,z4,z5,z6,z7,z8,fz⟩:=H.zs
 go_wp2_with (fail)
 rw [hz.out]
 exact H.done1 rfl rfl rfl rfl
end
end Go.Proofs.YtfpfpckocemmdaaGreat.P
