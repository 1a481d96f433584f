/- Part 48 of the walk. -/
import Derived.Test.YtfpfpckocemmdaaGreatCDoes44
import Derived.Test.YtfpfpckocemmdaaGreatCDoes45
import Derived.Test.YtfpfpckocemmdaaGreatCDoes47
set_option linter.unusedVariables false
set_option linter.unusedSimpArgs false
set_option maxHeartbeats 8000000
set_option maxRecDepth 100000
namespace Go.Proofs.YtfpfpckocemmdaaGreat.P
open Go.RowKit Go.Proofs.YtfpfpckocemmdaaGreatW.PrintWords Go.Proofs.YtfpfpckocemmdaaGreatW.PrintLast Go.Proofs.YtfpfpckocemmdaaGreatW.PrintMore
section
attribute [local go_sem] max2_mx min2_mn max_two min_two max_three min_three max_four min_four
abbrev RS (w:World) (y:Nod) (e:Int) (e':Ending) (w':World):Prop:=∃ D6 d6 D7 d7 D8 d8 D9 d9,e'=.returned (.tuple #[ag y (.slice D6 y.log.length d6) (.slice D7 y.acks.length d7) (.slice D8 y.votes.length d8),.slice D9 y.told.length d9,.int .i64 e])∧y.told.length≤d9∧Stays w' (fun W=>Arg W y D6 D7 D8 d6 d7 d8∧Kd.C k28 W D9 y.told.length y.told)∧Below w.heap.size w w'
theorem Fin.over {fn:Func} {a:Act} {p u u':Tmp} {w E:World} {gz:Nat} {y:Nod} {a0 a1 a2 a3 a4 a5 a6 a7 a8 v6 v7 v8 u9:Value} {e:Int} (hE:Fin w w E (fun _=>False) gz #[a0,a1,a2,a3,a4,a5,a6,a7,a8] y v6 v7 v8) (hf:Fits y) (h9:Row9 E (fun k=>w.heap.size≤k) u9 y.told) (he:Value.agg #[a0,a1,a2,a3,a4,a5,a6,a7,a8]=ag y v6 v7 v8) (hr:fn.results=#[.cell p 26,.tmp u,.tmp u']) (hp:a.tmps.getD p undef=.pointer (some ⟨gz,0,none⟩)) (hd:a.defers=[]) (hu:a.tmps.getD u undef=u9) (hu':a.tmps.getD u' undef=.int .i64 e):bodyPost Tryz.prog fn (RS w y e) .ret a E:=by
 injection he with he
 rw [he] at hE
 refine bodyPost_ret (results_ctt hr _ _ _ 26 _ (0,0) _ hp hE.row Tryz.underlying26 rfl (by kernel_rfl)) hd ?_
 rw [hu,hu']
 exact hE.back3 hf h9 _
theorem Fr.over {fn:Func} {a:Act} {p u u':Tmp} {w W:World} {gx gm gz n tm:Nat} {cx cm:Array Value} {y:Nod} {a0 a1 a2 a3 a4 a5 a6 a7 a8 b0 b1 b2 b3 b4 b5 b6 b7 b8 v6 v7 v8 u9:Value} {e:Int} (h:Fr w w W (fun _=>False) gx gm gz n tm cx cm #[b0,b1,b2,b3,b4,b5,b6,b7,b8] y v6 v7 v8) (hf:Fits y) (h9:Row9 W (Qn (fun _=>False) w n) u9 y.told) (he:Value.agg #[a0,a1,a2,a3,a4,a5,a6,a7,a8]=ag y v6 v7 v8) (hr:fn.results=#[.cell p 26,.tmp u,.tmp u']) (hp:a.tmps.getD p undef=.pointer (some ⟨gz,0,none⟩)) (hd:a.defers=[]) (hu:a.tmps.getD u undef=u9) (hu':a.tmps.getD u' undef=.int .i64 e):bodyPost Tryz.prog fn (RS w y e) .ret a (((((((((W.setCell ⟨gz,0,none⟩ a0).setCell ⟨gz,1,none⟩ a1).setCell ⟨gz,2,none⟩ a2).setCell ⟨gz,3,none⟩ a3).setCell ⟨gz,4,none⟩ a4).setCell ⟨gz,5,none⟩ a5).setCell ⟨gz,6,none⟩ a6).setCell ⟨gz,7,none⟩ a7).setCell ⟨gz,8,none⟩ a8):=by
 have ha:=h.ax
 exact (h.ret a0 a1 a2 a3 a4 a5 a6 a7 a8).over hf ((h9.step (Nat.le_of_eq (size9 ..).symm) (fun k hk hl=>keep9 k (hk.elim (fun hk=>hk.1.elim) (fun hk=>by omega)) ..)).mono (fun k hk _=>hk.elim (fun hk=>hk.1.elim) (fun hk=>by omega))) he hr hp hd hu hu'
theorem okMsg_eq (x:Nod) (m:S28):okMsg x m=(msgB m && !(m.f2 != x.id) && !(m.f1==x.id) && !decide (x.n≤m.f1)):=by
 unfold okMsg
 rw [Bool.eq_iff_iff]
 simp
theorem msgB_rng {m:S28} (h:msgB m=true):(0≤m.f1∧m.f1≤6)∧(0≤m.f3∧m.f3≤1000000):=by
 unfold msgB at h
 split at h
 ·rename_i hc
  simp only [Bool.and_eq_true,withinB_iff] at hc
  exact ⟨hc.1.1,hc.2⟩
 ·cases h
theorem ok_msg {x:Nod} {m:S28} (h:okMsg x m=true):msgB m=true∧m.f2=x.id∧¬ m.f1=x.id∧m.f1 < x.n:=by
 unfold okMsg at h
 simp only [Bool.and_eq_true,decide_eq_true_eq,Bool.not_eq_true',decide_eq_false_iff_not] at h
 exact ⟨h.1.1.1,h.1.1.2,h.1.2,h.2⟩
theorem rhandle_stays {x y:Nod} {m:S28} {e:Int} (h:handleOf x m=(y,e)) (hx:Few x) (hl:m.f7.length≤1000) (hf:Fits y) {A:Option Addr} {c:Nat} {A6 A7 A8:Option Addr} {c6 c7 c8:Nat} {w:World} (ha:Arg w x A6 A7 A8 c6 c7 c8) (hm:Kd.C Kd.string w A m.f7.length m.f7) (lm:m.f7.length≤c) :
  Calls Tryz.prog 11 #[ag x (.slice A6 x.log.length c6) (.slice A7 x.acks.length c7) (.slice A8 x.votes.length c8),.agg (mg m A c)] w (RS w y e):=by
 have hu26:=Tryz.underlying26
 have hu28:=Tryz.underlying28
 have hu22:=Tryz.underlying22
 have hu23:=Tryz.underlying23
 have hu24:=Tryz.underlying24
 have hu31:=Tryz.underlying31
 have hm:=Kd.C_F Kd.heap_string hm
 have HE:=Aside0.mk h
 have H:=fr_three (Below.refl w.heap.size w) (own3_none (w:=w) (base:=w.heap.size) (Q:=fun _=>False) zeroNod rfl rfl rfl) (row9 x (.slice A6 x.log.length c6) (.slice A7 x.acks.length c7) (.slice A8 x.votes.length c8)) (mg m A c) zer9
 dsimp only [ag,row9,mg,zer9] at H ⊢
 clear h
 go_enter Tryz.func11,Tryz.ntmps11
 go_upto_region 1 with (fail)
 refine H.gen ?_;clear H;intro V H
 go_cut [41] (fun s wx=>s=.bool (!(isB x && okMsg x m))∧H.at zeroNod wx)
 case first =>
  obtain ⟨p0,p1,p2,p3,p4,p5,p6,p7,p8,fx⟩:=H.xs
  obtain ⟨q0,q1,q2,q3,q4,q5,q6,q7⟩:=cells8 H.m
  go_wp2_with (fail)
  go_at_call 21
  refine (ris_stays (r:=isB x) rfl hx (ha.below H.b)).mono ?_
  rintro e' w1 ⟨rfl,hb⟩
  replace H:=H.call hb
  cases hI:isB x
  ·go_wp2
   go_meet
   exact ⟨by rw [hI];rfl,H⟩
  ·clear p0 p1 p2 p3 p4 p5 p6 p7 p8 fx q0 q1 q2 q3 q4 q5 q6 q7 hb
   obtain ⟨p0,p1,p2,p3,p4,p5,p6,p7,p8,fx⟩:=H.xs
   obtain ⟨q0,q1,q2,q3,q4,q5,q6,q7⟩:=cells8 H.m
   go_wp2_with (fail)
   clear p0 p1 p2 p3 p4 p5 p6 p7 p8 fx q0 q1 q2 q3 q4 q5 q6 q7
   go_at_call 48
   refine (rmsg_calls hl (hm w1 (fun k hk _=>H.k k hk id)) lm).mono ?_
   rintro e' w2 ⟨rfl,hb⟩
   replace H:=H.call hb
   clear hb
   obtain ⟨p0,p1,p2,p3,p4,p5,p6,p7,p8,fx⟩:=H.xs
   obtain ⟨q0,q1,q2,q3,q4,q5,q6,q7⟩:=cells8 H.m
   cases hM:msgB m
   ·skip
    go_wp2
    go_meet
    exact ⟨by simp [okMsg_eq, *],H⟩
   ·cases h2:(m.f2 != x.id)
    ·cases h3:(m.f1==x.id)
     ·cases h4:decide (x.n≤m.f1)
      all_goals
       go_wp2
       go_meet
       exact ⟨by simp [okMsg_eq, *],H⟩
     ·skip
      go_wp2
      go_meet
      exact ⟨by simp [okMsg_eq, *],H⟩
    ·skip
     go_wp2
     go_meet
     exact ⟨by simp [okMsg_eq, *],H⟩
 obtain ⟨rfl,H⟩:=hcut
 replace H:Fr _ _ _ _ _ _ _ _ _ _ _ _ _ _ _ _:=H
 cases hO:(isB x && okMsg x m)
 ·obtain ⟨z0,z1,z2,z3,z4,z5,z6,z7,z8,fz⟩:=H.zs
  go_wp2_with (fail)
  cases (show (zeroNod,(1:Int))=(y,e) from by rw [← HE.out];unfold handleOf;rw [if_neg (fun h=>by rw [h.1,h.2] at hO;cases hO)])
  exact H.over hf row9_nil rfl rfl rfl rfl rfl rfl
 ·have ⟨hI,hk⟩:=Bool.and_eq_true_iff.1 hO
  have hR:=right_of hI
  have ho:=ok_msg hk
  have hg:=hR.opened ▸ hR.good
  have hvl:x.votes.length≤900:=by have:=hR.count;have:=hR.n7;omega
  have hrg:=msgB_rng ho.1
  replace HE:=Aside0.mk (show (stepOf x m,(0:Int))=(y,e) from by rw [← HE.out];unfold handleOf;rw [if_pos ⟨hI,hk⟩])
  clear hI hk
  replace ho:=Aside0.mk ho
  obtain ⟨p0,p1,p2,p3,p4,p5,p6,p7,p8,fx⟩:=H.xs
  go_wp2_with (fail)
  clear p0 p1 p2 p3 p4 p5 p6 p7 p8 fx hO
  go_at_call 5
  refine (rown_calls x A6 A7 A8 c6 c7 c8 wc (ha.below H.b) hx.log hx.acks 1001 (SpecT.own_of _ hx.votes hx.each _ (by have:=hx.votes;omega))).mono ?_
  rintro e' w2 ⟨v6,v7,v8,rfl,hres,hb⟩
  have hs:=H.s
  replace H:=((H.call hb).own (hres.own3 (base':=w.heap.size) (Q:=Qn _ w (w.heap.size+1+1+1)) (fun k hk _=>.inr (Nat.le_trans hs hk)) (by omega))).node (y1:={ x with told:=[] }) rfl rfl rfl
  clear hb hres hs
  obtain ⟨D6,d6,D7,d7,D8,d8,rfl,rfl,rfl⟩:=H.slices
  obtain ⟨p0,p1,p2,p3,p4,p5,p6,p7,p8,fx⟩:=H.xs
  go_upto_region 4 with (fail)
  refine H.put9k ?_
  clear H p0 p1 p2 p3 p4 p5 p6 p7 p8 fx
  intro V H
  obtain ⟨p0,p1,p2,p3,p4,p5,p6,p7,p8,fx⟩:=H.xs
  obtain ⟨q0,q1,q2,q3,q4,q5,q6,q7⟩:=cells8 H.m
  rcases Bool.eq_false_or_eq_true (decide (m.f3 < x.view)) with hv | hv
  ·obtain ⟨z0,z1,z2,z3,z4,z5,z6,z7,z8,fz⟩:=H.zs
   go_wp2_with (fail)
   cases (show (({ x with told:=[] } : Nod),(0:Int))=(y,e) from by rw [← HE.out];unfold stepOf;rw [if_neg (by have:=of_decide_eq_true hv;omega),hR.opened])
   exact H.over hf row9_nil rfl rfl rfl rfl rfl rfl
  ·have hst:¬ (m.f3 < x.view):=of_decide_eq_false hv
   have hM:∀ W:World,V.heap.size≤W.heap.size→(∀ k,k < V.heap.size→¬ Qn (fun _=>False) w (w.heap.size+1+1+1) k→W.heap[k]?=V.heap[k]?)→Kd.C Kd.string W A m.f7.length m.f7:=fun W hs hk=>hm W (fun k h1 _=>(hk k (by have:=H.s;omega) (fun h=>h.elim (fun h=>h.1) (fun h=>by omega))).trans (H.k k h1 id))
   rcases msg_kind ho.out.1 with hk | hk | hk
   ·have k1:(m.f0==1)=true:=by rw [hk];rfl
    replace hk:=Aside0.mk hk
    go_wp2_with (fail)
    clear p0 p1 p2 p3 p4 p5 p6 p7 p8 fx q0 q1 q2 q3 q4 q5 q6 q7
    go_at_call 49
    refine (rprepare_calls { x with told:=[] } _ m hg rfl hrg.2.1 hl (Qn _ w (w.heap.size+1+1+1)) _ _ _ w V H.b H.o A c lm hM rfl).mono ?_
    rintro e' w6 ⟨u6,u7,u8,u9,rfl,hO,h9,hb,hs,hk2⟩
    have h9:=H.row9 h9
    replace H:=H.callK hO hb hs hk2
    clear hO hb hs hk2
    obtain ⟨E6,j6,E7,j7,E8,j8,rfl,rfl,rfl⟩:=H.slices
    obtain ⟨D9,k9,rfl,-⟩:=id h9
    go_upto_region 9 with (fail)
    refine H.boxy h9 ?_
    clear H h9
    intro V H h9 hx
    obtain ⟨p0,p1,p2,p3,p4,p5,p6,p7,p8⟩:=cells9 hx
    obtain ⟨z0,z1,z2,z3,z4,z5,z6,z7,z8,fz⟩:=H.zs
    go_wp2_with (fail)
    cases (show (({ x with told:=[] } : Nod).prepare m,(0:Int))=(y,e) from by rw [← HE.out];unfold stepOf;rw [if_pos (by omega),hR.opened,if_pos hk.out])
    exact H.over hf h9 rfl rfl rfl rfl rfl rfl
   ·have k1:(m.f0==1)=false:=by rw [hk];rfl
    have k2:(m.f0==2)=true:=by rw [hk];rfl
    replace hk:=Aside0.mk hk
    go_wp2_with (fail)
    clear p0 p1 p2 p3 p4 p5 p6 p7 p8 fx q0 q1 q2 q3 q4 q5 q6 q7
    go_at_call 50
    refine (rack_new { x with told:=[] } _ hg rfl m hrg.1.1 ho.out.2.2.2 A c (Qn _ w (w.heap.size+1+1+1)) _ _ _ w V H.b H.o rfl).mono ?_
    rintro e' w6 ⟨u6,u7,u8,u9,rfl,hO,h9,hb,hs,hk2⟩
    have h9:=H.row9 h9
    replace H:=H.callK hO hb hs hk2
    clear hO hb hs hk2
    obtain ⟨E6,j6,E7,j7,E8,j8,rfl,rfl,rfl⟩:=H.slices
    obtain ⟨D9,k9,rfl,-⟩:=id h9
    go_upto_region 12 with (fail)
    refine H.boxy h9 ?_
    clear H h9
    intro V H h9 hx
    obtain ⟨p0,p1,p2,p3,p4,p5,p6,p7,p8⟩:=cells9 hx
    obtain ⟨z0,z1,z2,z3,z4,z5,z6,z7,z8,fz⟩:=H.zs
    go_wp2_with (fail)
    cases (show (({ x with told:=[] } : Nod).ack m,(0:Int))=(y,e) from by rw [← HE.out];unfold stepOf;rw [if_pos (by omega),hR.opened,if_neg (by rw [hk.out];decide),if_pos hk.out])
    exact H.over hf h9 rfl rfl rfl rfl rfl rfl
   ·have k1:(m.f0==1)=false:=by rw [hk];rfl
    have k2:(m.f0==2)=false:=by rw [hk];rfl
    replace hk:=Aside0.mk hk
    go_wp2_with (fail)
    clear p0 p1 p2 p3 p4 p5 p6 p7 p8 fx q0 q1 q2 q3 q4 q5 q6 q7
    go_at_call 51
    refine (rcast_calls { x with told:=[] } _ m hg rfl hrg.2.1 hk.out ⟨hrg.1.1,by have:=hrg.1.2;omega⟩ hvl hl (Qn _ w (w.heap.size+1+1+1)) _ _ _ w V H.b H.o A c lm hM rfl).mono ?_
    rintro e' w6 ⟨u6,u7,u8,u9,rfl,hO,h9,hb,hs,hk2⟩
    have h9:=H.row9 h9
    replace H:=H.callK hO hb hs hk2
    clear hO hb hs hk2
    obtain ⟨E6,j6,E7,j7,E8,j8,rfl,rfl,rfl⟩:=H.slices
    obtain ⟨D9,k9,rfl,-⟩:=id h9
    go_upto_region 14 with (fail)
    refine H.boxy h9 ?_
    clear H h9
    intro V H h9 hx
    obtain ⟨p0,p1,p2,p3,p4,p5,p6,p7,p8⟩:=cells9 hx
    obtain ⟨z0,z1,z2,z3,z4,z5,z6,z7,z8,fz⟩:=H.zs
    go_wp2_with (fail)
    cases (show (({ x with told:=[] } : Nod).vote m,(0:Int))=(y,e) from by rw [← HE.out];unfold stepOf;rw [if_pos (by omega),hR.opened,if_neg (by rw [hk.out];decide),if_neg (by rw [hk.out];decide)])
    exact H.over hf h9 rfl rfl rfl rfl rfl rfl
end
section
attribute [local go_sem] max2_mx min2_mn max_two min_two max_three min_three max_four min_four
theorem rcast_f (a b c d e:Int) (l:List ByteArray) (hl:l.length≤1000):sextonref23_Cast.f a b c d e l=some (3,c,a,b,d,e,0,l):=by
 unfold sextonref23_Cast.f
 rw [SpecT.ownTexts_of l (by omega)];rfl
theorem late_begin {x:Nod} (h:Right x) (hp:(({ x with told:=[] } : Nod).joins (x.view+1)).prim (x.view+1)=true):lateOf x=(({ x with told:=[] } : Nod).joins (x.view+1)).begin_:=by
 unfold lateOf
 rw [h.opened]
 generalize hy:({ x with told:=[] } : Nod).joins (x.view+1)=y at hp ⊢
 have hv:y.view=x.view+1:=by rw [← hy];rfl
 have hb:y.begin_.view=y.view∧y.begin_.n=y.n∧y.begin_.id=y.id:=by
  unfold Nod.begin_
  split
  ·have:=counts_same y.rise.clear
   exact ⟨this.2.2.1,this.2.1,this.1⟩
  ·exact ⟨rfl,rfl,rfl⟩
 rw [if_pos (by rw [hb.1,hb.2.1,hb.2.2,hv];exact of_decide_eq_true (by simpa [Nod.prim] using hp))]
theorem late_cast {x:Nod} (h:Right x) (hp:(({ x with told:=[] } : Nod).joins (x.view+1)).prim (x.view+1)=false):lateOf x=(({ x with told:=[] } : Nod).joins (x.view+1)).say ((({ x with told:=[] } : Nod).joins (x.view+1)).castTo ((({ x with told:=[] } : Nod).joins (x.view+1)).view % (({ x with told:=[] } : Nod).joins (x.view+1)).n)):=by
 unfold lateOf
 rw [h.opened]
 generalize hy:({ x with told:=[] } : Nod).joins (x.view+1)=y at hp ⊢
 have hv:y.view=x.view+1:=by rw [← hy];rfl
 have hb:y.begin_=y:=by
  unfold Nod.begin_ Nod.may
  rw [hv,hp,if_neg (by simp)]
 rw [hb,if_neg (by rw [hv];intro he;unfold Nod.prim at hp;rw [he] at hp;simp at hp)]
section
variable {w0 w W:World} {Q:Nat→Prop} {gx gm gz n tm:Nat} {cx cm cz:Array Value} {y:Nod} {v6 v7 v8:Value} {ops:Array Oper} {o:Oper} {a:Act} {K:Act→World→Prop} {Qx:Exit→Act→World→Prop} {E:Prop} {xs:Array Operand} {ts:Array TypeId}
theorem Fr.own5 {x:Nod} {A6 A7 A8:Option Addr} {c6 c7 c8:Nat} (h:Fr w w W (fun _=>False) gx gm gz n tm cx cm cz y v6 v7 v8) (ha:Arg w x A6 A7 A8 c6 c7 c8) (hx:Few x) (hgd:o.guard=none) (hop:o.op=.call { callee:=.value (.func 5),args:=xs,argTypes:=ts }) (hargs:xs.map a.eval=#[ag x (.slice A6 x.log.length c6) (.slice A7 x.acks.length c7) (.slice A8 x.votes.length c8)]) (k:∀ u6 u7 u8 V,Fr w w V (fun _=>False) gx gm gz n tm cx cm cz { x with told:=[] } u6 u7 u8→K (a.put o.dst (ag x u6 u7 u8)) V):if Region.wanted o (yielded ops a.tmps)=true then Oper.wp Tryz.prog o a W K Qx else E:=by
 refine x_step_call hgd Tryz.func5 (by kernel_rfl) rfl _ hop hargs ((rown_calls x A6 A7 A8 c6 c7 c8 W (ha.below h.b) hx.log hx.acks 1001 (SpecT.own_of _ hx.votes hx.each _ (by have:=hx.votes;omega))).mono ?_)
 rintro e' w2 ⟨u6,u7,u8,rfl,hres,hb⟩
 have hs:=h.s
 have hx:=h.ax
 exact ⟨_,rfl,k _ _ _ _ (((h.call hb).own (hres.own3 (base':=w.heap.size) (Q:=Qn _ w n) (fun k hk _=>.inr (Nat.le_trans hs hk)) (by omega))).node rfl rfl rfl)⟩
theorem Fr.join39 {v:Int} (h:Fr w0 w W Q gx gm gz n tm cx cm cz y v6 v7 v8) (h1:1≤y.n) (h2:y.n≤1000) (hl:y.log.length≤1000) (hgd:o.guard=none) (hop:o.op=.call { callee:=.value (.func 39),args:=xs,argTypes:=ts }) (hargs:xs.map a.eval=#[ag y v6 v7 v8,.int .i64 v]) (k:∀ A6 c6 A7 c7 A8 c8 V,Fr w0 w V Q gx gm gz n tm cx cm cz (y.joins v) (.slice A6 (y.joins v).log.length c6) (.slice A7 (y.joins v).acks.length c7) (.slice A8 (y.joins v).votes.length c8)→K (a.put o.dst (ag (y.joins v) (.slice A6 (y.joins v).log.length c6) (.slice A7 (y.joins v).acks.length c7) (.slice A8 (y.joins v).votes.length c8))) V):if Region.wanted o (yielded ops a.tmps)=true then Oper.wp Tryz.prog o a W K Qx else E:=by
 refine x_step_call hgd Tryz.func39 (by kernel_rfl) rfl _ hop hargs ((rjoin_calls y v h1 h2 hl (Qn Q w n) _ _ _ w0 W h.b h.o).mono ?_)
 rintro e' w2 ⟨u6,u7,u8,rfl,hO,hb,hs,hk⟩
 have H:=h.callK hO hb hs hk
 obtain ⟨A6,c6,A7,c7,A8,c8,rfl,rfl,rfl⟩:=H.slices
 exact ⟨_,rfl,k _ _ _ _ _ _ _ H⟩
end
theorem Fr.sayo {fn:Func} {a:Act} {p u u':Tmp} {w W E:World} {gx gm gz n tm b:Nat} {cx cm cz:Array Value} {y:Nod} {m:S28} {ok:Nat→Prop} {a0 a1 a2 a3 a4 a5 a6 a7 a8 v6 v7 v8 vm:Value} {e:Int} (h:Fr w w W (fun _=>False) gx gm gz n tm cx cm cz y v6 v7 v8) (hf:Fits y) (hE:Said W E gz #[a0,a1,a2,a3,a4,a5,a6,a7,a8] (.cells #[.int .i64 m.f0,.int .i64 m.f1,.int .i64 m.f2,.int .i64 m.f3,.int .i64 m.f4,.int .i64 m.f5,.int .i64 m.f6,vm] 28 (0,0))) (ht:y.told=[m]) (hm:Kd.R Kd.string 9 W b ok vm m.f7) (hb:n≤b) (he:Value.agg #[a0,a1,a2,a3,a4,a5,a6,a7,a8]=ag y v6 v7 v8) (hr:fn.results=#[.cell p 26,.tmp u,.tmp u']) (hp:a.tmps.getD p undef=.pointer (some ⟨gz,0,none⟩)) (hd:a.defers=[]) (hu:a.tmps.getD u undef=.slice (some ⟨W.heap.size,0,none⟩) 1 1) (hu':a.tmps.getD u' undef=.int .i64 e):bodyPost Tryz.prog fn (RS w y e) .ret a E:=by
 have ha:=h.ax
 have hs:=h.s
 refine (h.said hE).over hf ?_ he hr hp hd hu hu'
 rw [ht]
 exact row9_one hE.msg (by show w.heap.size≤_;omega) (Kd.R_step (Kd.R_bound hm) (fun k hk hl=>hE.rest k (by have:=hk.2.1;omega) hl)) (fun k hk _=>by show w.heap.size≤k;omega)
theorem rtimeout_stays {x y:Nod} {e:Int} (h:timeoutOf x=(y,e)) (hx:Few x) (hf:Fits y) {A6 A7 A8:Option Addr} {c6 c7 c8:Nat} {w:World} (ha:Arg w x A6 A7 A8 c6 c7 c8) :
  Calls Tryz.prog 9 #[ag x (.slice A6 x.log.length c6) (.slice A7 x.acks.length c7) (.slice A8 x.votes.length c8)] w (RS w y e):=by
 have hu26:=Tryz.underlying26
 have hu28:=Tryz.underlying28
 have hu22:=Tryz.underlying22
 have hu23:=Tryz.underlying23
 have hu24:=Tryz.underlying24
 have hu31:=Tryz.underlying31
 have HE:=Aside0.mk h
 have H:=fr_two (Below.refl w.heap.size w) (own3_none (w:=w) (base:=w.heap.size) (Q:=fun _=>False) zeroNod rfl rfl rfl) (row9 x (.slice A6 x.log.length c6) (.slice A7 x.acks.length c7) (.slice A8 x.votes.length c8)) zer9
 dsimp only [ag,row9,zer9] at H ⊢
 clear h
 go_enter Tryz.func9,Tryz.ntmps9
 go_upto_region 1 with (fail)
 refine H.gen ?_;clear H;intro V H
 obtain ⟨p0,p1,p2,p3,p4,p5,p6,p7,p8,fx⟩:=H.xs
 go_wp2_with (fail)
 clear p0 p1 p2 p3 p4 p5 p6 p7 p8 fx
 go_at_call 21
 refine (ris_stays (r:=isB x) rfl hx (ha.below H.b)).mono ?_
 rintro e' w1 ⟨rfl,hb⟩
 replace H:=H.call hb
 clear hb
 obtain ⟨p0,p1,p2,p3,p4,p5,p6,p7,p8,fx⟩:=H.xs
 obtain ⟨z0,z1,z2,z3,z4,z5,z6,z7,z8,fz⟩:=H.zs
 cases hI:isB x
 ·go_wp2_with (fail)
  cases (show (zeroNod,(1:Int))=(y,e) from by rw [← HE.out];unfold timeoutOf;rw [if_neg (by rw [hI];decide)])
  exact H.over hf row9_nil rfl rfl rfl rfl rfl rfl
 ·have hR:=right_of hI
  have hg:=hR.opened ▸ hR.good
  rcases Bool.eq_false_or_eq_true (decide (1000000≤x.view)) with hv | hv
  ·go_wp2_with (fail)
   cases (show (zeroNod,(2:Int))=(y,e) from by rw [← HE.out];unfold timeoutOf;rw [if_pos hI,if_pos (by have:=of_decide_eq_true hv;have:=hR.view1;omega)])
   exact H.over hf row9_nil rfl rfl rfl rfl rfl rfl
  ·have hw1:IntKind.i64.wrap (x.view+1)=x.view+1:=by have:=hR.view0;have:=hR.view1;rw [i64_w];unfold wrap64;omega
   replace HE:=Aside0.mk (show (lateOf x,(0:Int))=(y,e) from by rw [← HE.out];unfold timeoutOf;rw [if_pos hI,if_neg (by have:=of_decide_eq_false hv;omega)])
   go_upto_region 5 with (fail)
   clear p0 p1 p2 p3 p4 p5 p6 p7 p8 fx z0 z1 z2 z3 z4 z5 z6 z7 z8 fz
   obtain ⟨z,hz⟩:∃ z,z=({ x with told:=[] } : Nod).joins (x.view+1):=⟨_,rfl⟩
   go_cut [] (fun wx=>H.to z wx)
   case first =>
    replace H:=H.drew
    obtain ⟨p0,p1,p2,p3,p4,p5,p6,p7,p8,fx⟩:=H.xs
    go_region_law (first | (refine H.own5 ha hx rfl rfl (by simp [Act.eval,Act.put]) ?_;intro v6 v7 v8 V2 H;obtain ⟨p0,p1,p2,p3,p4,p5,p6,p7,p8,fx⟩:=H.xs) | (refine H.join39 (v:=x.view+1) hg.n1 hg.n2 hg.log rfl rfl (by simp [Act.eval,Act.put,hw1]) ?_;intro E6 j6 E7 j7 E8 j8 V3 H;obtain ⟨p0,p1,p2,p3,p4,p5,p6,p7,p8,fx⟩:=H.xs))
    all_goals
     go_wp2
     go_meet
     rw [hz]
     exact ⟨_,_,_,H.put9 ..⟩
   obtain ⟨u6,u7,u8,H⟩:=hcut
   obtain ⟨E6,j6,E7,j7,E8,j8,rfl,rfl,rfl⟩:=H.slices
   have hgz:Good z:=hz ▸ joins_good hg (x.view+1) (by have:=hR.view0;omega)
   have htz:=Aside0.mk (show z.told=[] by rw [hz];rfl)
   have hvz:x.view+1=z.view:=by rw [hz];rfl
   have hn0:(z.n==0)=false:=by have:=hgz.n1;simp;omega
   have hn1:¬ z.n=0:=by have:=hgz.n1;omega
   have hv0:=hgz.view
   have hc:=late_cast hR
   have hb:=late_begin hR
   rw [← hz,hvz] at hc hb
   replace hc:=Aside0.mk hc
   replace hb:=Aside0.mk hb
   clear hz hvz hg hR hI hv hw1
   obtain ⟨p0,p1,p2,p3,p4,p5,p6,p7,p8,fx⟩:=H.xs
   go_wp2_with (fail)
   clear p0 p1 p2 p3 p4 p5 p6 p7 p8 fx
   go_at_call 40
   refine (rprimary_calls z z.view E6 E7 E8 _ _ _ j6 j7 j8 wc hgz.view hgz.n1).mono ?_
   rintro e' w2 ⟨rfl,hb'⟩
   replace H:=H.call hb'
   clear hb'
   obtain ⟨p0,p1,p2,p3,p4,p5,p6,p7,p8,fx⟩:=H.xs
   cases hp:z.prim z.view
   ·go_wp2_with (fail)
    replace HE:=Aside0.mk (show (z.say (z.castTo (z.view % z.n)),(0:Int))=(y,e) from by rw [← HE.out,hc.out hp])
    clear p0 p1 p2 p3 p4 p5 p6 p7 p8 fx hb hc
    have h:=H.drew
    clear H
    go_region_held3 (C9 w.heap.size z (.slice E6 z.log.length j6) (.slice E7 z.acks.length j7) (.slice E8 z.votes.length j8))
     (with_reducible first | exact cells9 h.x | exact cells9 (h.al _).x | exact cells9 (h.zz ..) | exact cells9 ((h.al _).zz ..) | exact cells9 (blk_alloc (h.zz ..) _))
     (first | (refine x_step_call rfl Tryz.func42 (by kernel_rfl) rfl #[ag z (.slice E6 z.log.length j6) (.slice E7 z.acks.length j7) (.slice E8 z.votes.length j8)] rfl (by simp [Act.eval,Act.put]) ?_;refine (rvote_calls z E6 E7 E8 _ _ j6 j7 j8 _ (sl6 h.o).1 (sl6 h.o).2 hgz.log).mono ?_;rintro e' w7 ⟨v7,rfl,hr7,hb⟩;obtain ⟨B7,d7,rfl⟩:=Kd.R_slice hr7;replace h:=h.call hb;refine ⟨_,rfl,?_⟩) | (refine x_step_call rfl Tryz.func41 (by kernel_rfl) rfl #[.int .i64 (z.view % z.n),.int .i64 z.view,.agg #[.int .i64 z.id,.int .i64 z.last,.int .i64 z.commit,.slice B7 z.log.length d7]] rfl (by simp [Act.eval,Act.put,Int.tmod_eq_emod_of_nonneg hv0]) ?_;refine (sextonref23_Cast.calls _ _ _ _ _ B7 d7 z.log _ _ _ _ _ _ _ _ w7 (Kd.R_reads' hr7).2.2 (Kd.R_reads' hr7).2.1 (rcast_f _ _ _ _ _ _ hgz.log)).mono ?_;rintro e' w8 ⟨v8,rfl,hr8,hb⟩;have hs:=h.s;replace h:=h.call hb;obtain ⟨z0,z1,z2,z3,z4,z5,z6,z7,z8,fz⟩:=h.zs;have za:=fun o=>(h.al o).zs;refine ⟨_,rfl,?_⟩))
    ·go_wp2
     cases HE.out
     exact (h.node (y1:=z.say (z.castTo (z.view % z.n))) rfl rfl rfl).sayo hf (m:=z.castTo (z.view % z.n)) (said_a h.z ..) (by show z.told++_=_;rw [htz.out];rfl) hr8 hs rfl rfl rfl rfl rfl rfl
    ·go_wp2
     cases HE.out
     exact (h.node (y1:=z.say (z.castTo (z.view % z.n))) rfl rfl rfl).sayo hf (m:=z.castTo (z.view % z.n)) (said_b h.z ..) (by show z.told++_=_;rw [htz.out];rfl) hr8 hs rfl rfl rfl rfl rfl rfl
   ·go_wp2_with (fail)
    clear p0 p1 p2 p3 p4 p5 p6 p7 p8 fx hc
    go_at_call 43
    refine (rbegin_new z _ hgz htz.out (Qn _ w (w.heap.size+1+1)) _ _ _ w w2 H.b H.o rfl).mono ?_
    rintro e' w6 ⟨u6,u7,u8,u9,rfl,hO,h9,hb',hs,hk2⟩
    have h9:=H.row9 h9
    replace H:=H.callK hO hb' hs hk2
    clear hO hb' hs hk2
    obtain ⟨F6,k6,F7,k7,F8,k8,rfl,rfl,rfl⟩:=H.slices
    obtain ⟨D9,k9,rfl,-⟩:=id h9
    go_upto_region 9 with (fail)
    refine H.boxy h9 ?_
    clear H h9
    intro V H h9 hx
    obtain ⟨p0,p1,p2,p3,p4,p5,p6,p7,p8⟩:=cells9 hx
    obtain ⟨z0,z1,z2,z3,z4,z5,z6,z7,z8,fz⟩:=H.zs
    go_wp2_with (fail)
    cases (show (z.begin_,(0:Int))=(y,e) from by rw [← HE.out,hb.out hp])
    exact H.over hf h9 rfl rfl rfl rfl rfl rfl
end
end Go.Proofs.YtfpfpckocemmdaaGreat.P
