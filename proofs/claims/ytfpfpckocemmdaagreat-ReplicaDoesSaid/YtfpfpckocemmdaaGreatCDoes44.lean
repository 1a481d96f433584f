/- Part 44 of the walk. -/
import Derived.Test.YtfpfpckocemmdaaGreatCDoes43
set_option linter.unusedVariables false
set_option linter.unusedSimpArgs false
set_option maxHeartbeats 8000000
set_option maxRecDepth 100000
namespace Go.Proofs.YtfpfpckocemmdaaGreat.P
open Go.RowKit Go.Proofs.YtfpfpckocemmdaaGreatW.PrintWords Go.Proofs.YtfpfpckocemmdaaGreatW.PrintLast Go.Proofs.YtfpfpckocemmdaaGreatW.PrintMore
section
attribute [local go_sem] max2_mx min2_mn max_two min_two max_three min_three max_four min_four
theorem Fin.back {w E:World} {gz:Nat} {y:Nod} {a0 a1 a2 a3 a4 a5 v6 v7 v8:Value} {row:Array Value} (h:Fin w w E (fun _=>False) gz row y v6 v7 v8) (hf:Fits y) (e:Value):∃ D6 d6 D7 d7 D8 d8,Ending.returned (.tuple #[.agg #[a0,a1,a2,a3,a4,a5,v6,v7,v8],e])=.returned (.tuple #[.agg #[a0,a1,a2,a3,a4,a5,.slice D6 y.log.length d6,.slice D7 y.acks.length d7,.slice D8 y.votes.length d8],e])∧Stays E (fun W=>Arg W y D6 D7 D8 d6 d7 d8)∧Below w.heap.size w E:=by
 obtain ⟨D6,d6,D7,d7,D8,d8,rfl,rfl,rfl,hA⟩:=h.own.arg hf
 exact ⟨D6,d6,D7,d7,D8,d8,rfl,Stays.of (n:=w.heap.size) (fun W hm=>hA W (fun k hk hl=>hm k (hk.elim False.elim id) hl)),h.below⟩
theorem rrestart_stays {x y:Nod} {e:Int} (h:restartOf x=(y,e)) (hx:Few x) (hf:Fits y) {A6 A7 A8:Option Addr} {c6 c7 c8:Nat} {w:World} (ha:Arg w x A6 A7 A8 c6 c7 c8) :
  Calls Tryz.prog 13 #[ag x (.slice A6 x.log.length c6) (.slice A7 x.acks.length c7) (.slice A8 x.votes.length c8)] w fun e' w'=>∃ D6 d6 D7 d7 D8 d8,e'=.returned (.tuple #[ag y (.slice D6 y.log.length d6) (.slice D7 y.acks.length d7) (.slice D8 y.votes.length d8),.int .i64 e])∧Stays w' (fun W=>Arg W y D6 D7 D8 d6 d7 d8)∧Below w.heap.size w w':=by
 have hu26:=Tryz.underlying26
 have hu22:=Tryz.underlying22
 have hu23:=Tryz.underlying23
 have hu24:=Tryz.underlying24
 have hu63:=Tryz.underlying63
 have HA:=Aside0.mk ha
 have HE:=Aside0.mk h
 have HF:=Aside0.mk hf
 have HX:=Aside0.mk hx
 clear h hf hx ha
 dsimp only [ag,row9]
 go_enter Tryz.func13,Tryz.ntmps13
 have H:=Aside0.mk (fr_two (Below.refl w.heap.size w) (own3_none (w:=w) (base:=w.heap.size) (Q:=fun _=>False) zeroNod rfl rfl rfl) (row9 x (.slice A6 x.log.length c6) (.slice A7 x.acks.length c7) (.slice A8 x.votes.length c8)) zer9)
 dsimp only [row9,zer9] at H
 have HA:=Aside0.mk (HA.out.below (below_alloc (below_alloc (Below.refl w.heap.size w) (.cells #[.int .i64 x.id,.int .i64 x.n,.int .i64 x.view,.int .i64 x.last,.bool x.works,.int .i64 x.commit,.slice A6 x.log.length c6,.slice A7 x.acks.length c7,.slice A8 x.votes.length c8] 26)) (.cells #[.int .i64 0,.int .i64 0,.int .i64 0,.int .i64 0,.bool false,.int .i64 0,.slice none 0 0,.slice none 0 0,.slice none 0 0] 26)))
 obtain ⟨p0,p1,p2,p3,p4,p5,p6,p7,p8⟩:=cells9 H.out.x
 have fx:=fr_of H.out.x
 go_wp2_with (fail)
 clear p0 p1 p2 p3 p4 p5 p6 p7 p8 fx
 generalize (w.alloc (.cells #[.int .i64 x.id,.int .i64 x.n,.int .i64 x.view,.int .i64 x.last,.bool x.works,.int .i64 x.commit,.slice A6 x.log.length c6,.slice A7 x.acks.length c7,.slice A8 x.votes.length c8] 26)).alloc (.cells #[.int .i64 0,.int .i64 0,.int .i64 0,.int .i64 0,.bool false,.int .i64 0,.slice none 0 0,.slice none 0 0,.slice none 0 0] 26)=V at H HA ⊢
 go_at_call 21
 refine (ris_stays (r:=isB x) rfl HX.out HA.out).mono ?_
 rintro e' w1 ⟨rfl,hb⟩
 replace H:=Aside0.mk (H.out.call hb)
 replace HA:=Aside0.mk (HA.out.below hb)
 clear hb
 obtain ⟨z0,z1,z2,z3,z4,z5,z6,z7,z8⟩:=cells9 H.out.z
 have fz:=fr_of H.out.z
 cases hI:isB x
 ·go_wp2_with (fail)
  have hE:=H.out.ret (.int .i64 0) (.int .i64 0) (.int .i64 0) (.int .i64 0) (.bool false) (.int .i64 0) (.slice none 0 0) (.slice none 0 0) (.slice none 0 0)
  refine bodyPost_ret (results_ct rfl _ _ _ 26 _ (0,0) _ rfl hE.row Tryz.underlying26 rfl (by kernel_rfl)) rfl ?_
  cases (show (zeroNod,1)=(y,e) from by rw [← HE.out];unfold restartOf;rw [if_neg (by rw [hI];decide)])
  exact hE.back HF.out _
 ·have hR:=right_of hI
  have hop:=hR.opened
  have hG:=hR.good
  rw [hop] at hG
  obtain ⟨hy,rfl⟩:=Prod.mk.inj (show ((({ x with told:=[] } : Nod).restart,0):Nod×Int)=(y,e) from by rw [← HE.out];unfold restartOf;rw [if_pos hI,hop])
  have HY:=Aside0.mk hy
  clear hy
  have HG:=Aside0.mk hG
  have HR:=Aside0.mk hR
  clear hG hR hop HE
  obtain ⟨p0,p1,p2,p3,p4,p5,p6,p7,p8⟩:=cells9 H.out.x
  have fx:=fr_of H.out.x
  go_wp2_with (fail)
  clear z0 z1 z2 z3 z4 z5 z6 z7 z8 fz
  clear p0 p1 p2 p3 p4 p5 p6 p7 p8 fx
  go_at_call 5
  refine (rown_calls x A6 A7 A8 c6 c7 c8 w1 HA.out HX.out.log HX.out.acks 1001 (SpecT.own_of _ HX.out.votes HX.out.each _ (by have:=HX.out.votes;omega))).mono ?_
  rintro e w2 ⟨v6,v7,v8,rfl,hres,hb⟩
  replace H:=Aside0.mk ((H.out.call hb).own (hres.own3 (base':=w.heap.size) (Q:=Qn _ w (w.heap.size+1+1)) (fun k hk _=>.inr (Nat.le_trans H.out.s hk)) (by have:=H.out.s;omega)))
  clear hb hres HA
  obtain ⟨D6,d6,D7,d7,D8,d8,rfl,rfl,rfl⟩:=H.out.slices
  obtain ⟨p0,p1,p2,p3,p4,p5,p6,p7,p8⟩:=cells9 H.out.x
  have fx:=fr_of H.out.x
  replace H:=Aside0.mk (H.out.put9 (.int .i64 x.id) (.int .i64 x.n) (.int .i64 x.view) (.int .i64 x.last) (.bool x.works) (.int .i64 x.commit) (.slice D6 x.log.length d6) (.slice D7 x.acks.length d7) (.slice D8 x.votes.length d8))
  go_wp2_with ((with_reducible refine gate_dst (N:=12) rfl ?_);refine Kd.R_make (Kd.int .i64) _ 3 rfl (N:=12) rfl 23 _ _ rfl x.n rfl rfl Tryz.underlying23 (.int .i64 0) 8 info3 rfl (by decide) (by omega) 0 (ok:=fun _=>True) (okp:=fun _=>True) rfl (fun _ hk=>hk) trivial (by have:1≤x.n:=HG.out.n1;omega) (by have:x.n≤1000:=HG.out.n2;omega) (Below.refl _ _) (Nat.le_refl _) ?_;intro v7 w3 hr7 hb hg_ hat;obtain ⟨B7,d7,e7⟩:=Kd.R_slice hr7;rw [List.length_replicate] at e7;subst e7;have HS:=Aside0.mk H.out.s;replace H:=Aside0.mk ((H.out.call hb).own (H.out.o.with_acks hb (by have:=HS.out;omega) hr7 (fun k hk=>.inr (Nat.le_trans HS.out hk))));clear p0 p1 p2 p3 p4 p5 p6 p7 p8 fx;obtain ⟨p0,p1,p2,p3,p4,p5,p6,p7,p8⟩:=cells9 H.out.x;have fx:=fr_of H.out.x)
  all_goals
   clear p0 p1 p2 p3 p4 p5 p6 p7 p8 fx
   replace H:=Aside0.mk ((H.out.put1 7 (.slice B7 x.n.toNat d7) (cx':=#[.int .i64 x.id,.int .i64 x.n,.int .i64 x.view,.int .i64 x.last,.bool x.works,.int .i64 x.commit,.slice D6 x.log.length d6,.slice B7 x.n.toNat d7,.slice D8 x.votes.length d8]) rfl).put1 8 (.slice none 0 0) (cx':=#[.int .i64 x.id,.int .i64 x.n,.int .i64 x.view,.int .i64 x.last,.bool x.works,.int .i64 x.commit,.slice D6 x.log.length d6,.slice B7 x.n.toNat d7,.slice none 0 0]) rfl)
   replace H:=Aside0.mk (H.out.own H.out.o.no_votes)
   generalize (w3.setCell ⟨w.heap.size,7,none⟩ (.slice B7 x.n.toNat d7)).setCell ⟨w.heap.size,8,none⟩ (.slice none 0 0)=w4 at H ⊢
  ·have hw:x.works=false:=by simpa using ‹(!x.works)=true›
   have hV:=Aside0.mk H.out.o.reads
   go_at_call 42
   refine (rvote_calls x D6 B7 none _ _ d6 _ _ w4 (sl6 H.out.o).1 (sl6 H.out.o).2 HX.out.log).mono ?_
   rintro e w5 ⟨v3,rfl,hr3,hb⟩
   obtain ⟨C3,c3,rfl⟩:=Kd.R_slice hr3
   have H5:=Aside0.mk (H.out.call hb)
   obtain ⟨p0,p1,p2,p3,p4,p5,p6,p7,p8⟩:=cells9 H5.out.x
   have fx:=fr_of H5.out.x
   obtain ⟨z0,z1,z2,z3,z4,z5,z6,z7,z8⟩:=cells9 (blk_alloc H5.out.x (.cells #[.int .i64 x.id,.int .i64 x.last,.int .i64 x.commit,.slice C3 x.log.length c3] 63))
   have fz:=fr_of (blk_alloc H5.out.x (.cells #[.int .i64 x.id,.int .i64 x.last,.int .i64 x.commit,.slice C3 x.log.length c3] 63))
   go_wp2_with (fail)
   clear p0 p1 p2 p3 p4 p5 p6 p7 p8 fx z0 z1 z2 z3 z4 z5 z6 z7 z8 fz
   have hb2:Below w4.heap.size w4 (w5.alloc (.cells #[.int .i64 x.id,.int .i64 x.last,.int .i64 x.commit,.slice C3 x.log.length c3] 63)):=below_alloc hb _
   have hS:=s63_one (v:=⟨x.id,x.last,x.commit,x.log⟩) (x_alloc_new w5 (.cells #[.int .i64 x.id,.int .i64 x.last,.int .i64 x.commit,.slice C3 x.log.length c3] 63)) hb.size (Kd.R_mono (Kd.R_below (Kd.R_bound hr3) (below_alloc (Below.refl _ _) (.cells #[.int .i64 x.id,.int .i64 x.last,.int .i64 x.commit,.slice C3 x.log.length c3] 63))) (fun k hk=>by have:=hk.2.2.1;omega))
   replace H:=Aside0.mk (((H.out.call hb2).own (H.out.o.with_votes hb2 hS (fun k hk=>.inr (Nat.le_trans H.out.s hk)))).put1 8 (.slice (some ⟨w5.heap.size,0,none⟩) 1 1) (cx':=#[.int .i64 x.id,.int .i64 x.n,.int .i64 x.view,.int .i64 x.last,.bool x.works,.int .i64 x.commit,.slice D6 x.log.length d6,.slice B7 x.n.toNat d7,.slice (some ⟨w5.heap.size,0,none⟩) 1 1]) rfl)
   clear H5 hb hb2 hS hr3
   generalize (w5.alloc (.cells #[.int .i64 x.id,.int .i64 x.last,.int .i64 x.commit,.slice C3 x.log.length c3] 63)).setCell ⟨w.heap.size,8,none⟩ (.slice (some ⟨w5.heap.size,0,none⟩) 1 1)=w6 at H ⊢
   go_at_call 32
   have hg:Good ({ x with works:=false,acks:=List.replicate x.n.toNat 0,votes:=[⟨x.id,x.last,x.commit,x.log⟩],told:=[] } : Nod):=⟨HG.out.n1,HG.out.n2,HG.out.id0,HG.out.id1,HG.out.view,HG.out.log,by simp,by simp,(fun v hv=>by obtain rfl:=List.mem_singleton.1 hv;exact ⟨HG.out.id0,by have:x.id < x.n:=HG.out.id1;have:x.n≤1000:=HG.out.n2;show x.id≤1000;omega,HG.out.log⟩),HG.out.told⟩
   have hc:=rcount_calls ({ x with works:=false,acks:=List.replicate x.n.toNat 0,votes:=[⟨x.id,x.last,x.commit,x.log⟩],told:=[] } : Nod) hg (Qn (fun _=>False) w (w.heap.size+1+1)) _ _ _ w w6 H.out.b H.out.o
   clear hg
   generalize hz:Nod.counts _=z at hc
   refine hc.mono ?_
   clear hc
   rintro e w8 ⟨u6,u7,u8,rfl,hO,hb,hs,hk⟩
   replace H:=Aside0.mk (H.out.callK hO hb hs hk)
   clear hO hb hs hk
   obtain ⟨E6,j6,E7,j7,E8,j8,rfl,rfl,rfl⟩:=H.out.slices
   obtain ⟨z0,z1,z2,z3,z4,z5,z6,z7,z8⟩:=cells9 H.out.z
   have fz:=fr_of H.out.z
   go_wp2_with (fail)
   clear z0 z1 z2 z3 z4 z5 z6 z7 z8 fz
   have hE:=H.out.ret (.int .i64 z.id) (.int .i64 z.n) (.int .i64 z.view) (.int .i64 z.last) (.bool z.works) (.int .i64 z.commit) (.slice E6 z.log.length j6) (.slice E7 z.acks.length j7) (.slice E8 z.votes.length j8)
   refine bodyPost_ret (results_ct rfl _ _ _ 26 _ (0,0) _ rfl hE.row Tryz.underlying26 rfl (by kernel_rfl)) rfl ?_
   cases HY.out.symm.trans ((show ({ x with told:=[] } : Nod).restart=Nod.counts ({ x with works:=false,acks:=List.replicate x.n.toNat 0,votes:=[⟨x.id,x.last,x.commit,x.log⟩],told:=[] } : Nod) from by unfold Nod.restart Nod.waits;rw [if_neg (by show ¬ x.works=true;rw [hw];decide),counts_not _ (show ({ x with told:=[] } : Nod).clear.works=false from hw),counts_not ({ x with works:=false,acks:=List.replicate x.n.toNat 0,votes:=[⟨x.id,x.last,x.commit,x.log⟩],told:=[] } : Nod) rfl];show ({ x with acks:=List.replicate x.n.toNat 0,votes:=addTo [] ⟨x.id,x.last,x.commit,x.log⟩,told:=[] } : Nod)=_;rw [hw];rfl).trans hz)
   exact hE.back HF.out _
  ·have hw:x.works=true:=by simpa using ‹(!x.works)=false›
   go_at_call 32
   have hc:=rcount_calls ({ x with told:=[] } : Nod).clear (clear_good HG.out) (Qn (fun _=>False) w (w.heap.size+1+1)) _ _ _ w w4 H.out.b H.out.o
   generalize hz:Nod.counts _=z at hc
   refine hc.mono ?_
   clear hc
   rintro e w8 ⟨u6,u7,u8,rfl,hO,hb,hs,hk⟩
   replace H:=Aside0.mk (H.out.callK hO hb hs hk)
   clear hO hb hs hk
   obtain ⟨E6,j6,E7,j7,E8,j8,rfl,rfl,rfl⟩:=H.out.slices
   obtain ⟨z0,z1,z2,z3,z4,z5,z6,z7,z8⟩:=cells9 H.out.z
   have fz:=fr_of H.out.z
   go_wp2_with (fail)
   clear z0 z1 z2 z3 z4 z5 z6 z7 z8 fz
   have hE:=H.out.ret (.int .i64 z.id) (.int .i64 z.n) (.int .i64 z.view) (.int .i64 z.last) (.bool z.works) (.int .i64 z.commit) (.slice E6 z.log.length j6) (.slice E7 z.acks.length j7) (.slice E8 z.votes.length j8)
   refine bodyPost_ret (results_ct rfl _ _ _ 26 _ (0,0) _ rfl hE.row Tryz.underlying26 rfl (by kernel_rfl)) rfl ?_
   cases HY.out.symm.trans ((if_pos hw:({ x with told:=[] } : Nod).restart=({ x with told:=[] } : Nod).clear.counts).trans hz)
   exact hE.back HF.out _
end
section
attribute [local go_sem] max2_mx min2_mn max_two min_two max_three min_three max_four min_four
theorem Own3.logged {W:World} {base:Nat} {Q:Nat→Prop} {x:Nod} {v6 v7 v8:Value} (h:Own3 W base Q x v6 v7 v8) (hq:∀ k,W.heap.size≤k→Q k):∃ P:Nat→Prop,Kd.R Kd.string 9 W base P v6 x.log∧(∀ k,W.heap.size≤k→P k)∧(∀ k,v6.ownBlock=some k→Q k) ∧
  ∀ s v1 w1,Kd.R Kd.string 9 w1 base P v1 (x.log++[s])→W.grownBy w1 v6.ownBlock→Own3 w1 base Q (x.logs s) v1 v7 v8:=by
 obtain ⟨P6,P7,P8,h6,h7,h8,a6,a7,hl⟩:=h
 have hs:∀ {w1:World},W.grownBy w1 v6.ownBlock→∀ k,P7 k∨P8 k→k < W.heap.size→w1.heap[k]?=W.heap[k]?:=fun hg k hk hlt=>hg.block k hlt (fun e=>by
  have:=a6 k (h6.1 k e.symm)
  exact hk.elim this.1 this.2)
 refine ⟨fun k=>P6 k∨W.heap.size≤k,Kd.R_mono h6 (fun k hk=>.inl hk),fun k hk=>.inr hk,fun k hk=>(hl k (.inl (h6.1 k hk))).1,fun s v1 w1 hr hg=>?_⟩
 refine ⟨_,P7,P8,Kd.R_bound hr,Kd.R_step h7 (fun k hk hlt=>hs hg k (.inl hk) hlt),Kd.V_step h8 (fun k hk hlt=>hs hg k (.inr hk) hlt),fun k hk=>⟨fun q=>?_,fun q=>?_⟩,a7,?_⟩
 ·have h1:=(hl k (.inr (.inl q))).2
  exact hk.1.elim (fun hp=>(a6 k hp).1 q) (fun hp=>by omega)
 ·have h1:=(hl k (.inr (.inr q))).2
  exact hk.1.elim (fun hp=>(a6 k hp).2 q) (fun hp=>by omega)
 ·rintro k (hk | hk | hk)
  ·exact ⟨hk.1.elim (fun hp=>(hl k (.inl hp)).1) (hq k),hk.2.2.1⟩
  ·exact ⟨(hl k (.inr (.inl hk))).1,Nat.lt_of_lt_of_le (hl k (.inr (.inl hk))).2 hg.size⟩
  ·exact ⟨(hl k (.inr (.inr hk))).1,Nat.lt_of_lt_of_le (hl k (.inr (.inr hk))).2 hg.size⟩
theorem Fin.back3 {w E:World} {gz:Nat} {y:Nod} {a0 a1 a2 a3 a4 a5 v6 v7 v8 v9:Value} {row:Array Value} (h:Fin w w E (fun _=>False) gz row y v6 v7 v8) (hf:Fits y) (h9:Row9 E (fun k=>w.heap.size≤k) v9 y.told) (e:Value):∃ D6 d6 D7 d7 D8 d8 D9 d9,Ending.returned (.tuple #[.agg #[a0,a1,a2,a3,a4,a5,v6,v7,v8],v9,e])=.returned (.tuple #[.agg #[a0,a1,a2,a3,a4,a5,.slice D6 y.log.length d6,.slice D7 y.acks.length d7,.slice D8 y.votes.length d8],.slice D9 y.told.length d9,e])∧y.told.length≤d9∧Stays E (fun W=>Arg W y D6 D7 D8 d6 d7 d8∧Kd.C k28 W D9 y.told.length y.told)∧Below w.heap.size w E:=by
 obtain ⟨D6,d6,D7,d7,D8,d8,rfl,rfl,rfl,hA⟩:=h.own.arg hf
 obtain ⟨D9,d9,rfl,l9,hC⟩:=h9
 exact ⟨D6,d6,D7,d7,D8,d8,D9,d9,rfl,l9,Stays.of (n:=w.heap.size) (fun W hm=>⟨hA W (fun k hk hl=>hm k (hk.elim False.elim id) hl),hC W hm⟩),h.below⟩
theorem rask_stays {x y:Nod} {s:ByteArray} {e:Int} (h:askOf x s=(y,e)) (hx:Few x) (hf:Fits y) {A6 A7 A8:Option Addr} {c6 c7 c8:Nat} {w:World} (ha:Arg w x A6 A7 A8 c6 c7 c8) :
  Calls Tryz.prog 7 #[ag x (.slice A6 x.log.length c6) (.slice A7 x.acks.length c7) (.slice A8 x.votes.length c8),.string s] w fun e' w'=>∃ D6 d6 D7 d7 D8 d8 D9 d9,e'=.returned (.tuple #[ag y (.slice D6 y.log.length d6) (.slice D7 y.acks.length d7) (.slice D8 y.votes.length d8),.slice D9 y.told.length d9,.int .i64 e])∧y.told.length≤d9∧Stays w' (fun W=>Arg W y D6 D7 D8 d6 d7 d8∧Kd.C k28 W D9 y.told.length y.told)∧Below w.heap.size w w':=by
 have hu26:=Tryz.underlying26
 have hu22:=Tryz.underlying22
 have hu23:=Tryz.underlying23
 have hu24:=Tryz.underlying24
 have hu31:=Tryz.underlying31
 have hu9:=Tryz.underlying9
 have HA:=Aside0.mk ha
 have HE:=Aside0.mk h
 have HF:=Aside0.mk hf
 have HX:=Aside0.mk hx
 clear h hf hx ha
 dsimp only [ag,row9]
 go_enter Tryz.func7,Tryz.ntmps7
 have H:=Aside0.mk (fr_two (Below.refl w.heap.size w) (own3_none (w:=w) (base:=w.heap.size) (Q:=fun _=>False) zeroNod rfl rfl rfl) (row9 x (.slice A6 x.log.length c6) (.slice A7 x.acks.length c7) (.slice A8 x.votes.length c8)) zer9)
 dsimp only [row9,zer9] at H
 have HA:=Aside0.mk (HA.out.below (below_alloc (below_alloc (Below.refl w.heap.size w) (.cells #[.int .i64 x.id,.int .i64 x.n,.int .i64 x.view,.int .i64 x.last,.bool x.works,.int .i64 x.commit,.slice A6 x.log.length c6,.slice A7 x.acks.length c7,.slice A8 x.votes.length c8] 26)) (.cells #[.int .i64 0,.int .i64 0,.int .i64 0,.int .i64 0,.bool false,.int .i64 0,.slice none 0 0,.slice none 0 0,.slice none 0 0] 26)))
 obtain ⟨p0,p1,p2,p3,p4,p5,p6,p7,p8⟩:=cells9 H.out.x
 have fx:=fr_of H.out.x
 go_wp2_with (fail)
 clear p0 p1 p2 p3 p4 p5 p6 p7 p8 fx
 generalize (w.alloc (.cells #[.int .i64 x.id,.int .i64 x.n,.int .i64 x.view,.int .i64 x.last,.bool x.works,.int .i64 x.commit,.slice A6 x.log.length c6,.slice A7 x.acks.length c7,.slice A8 x.votes.length c8] 26)).alloc (.cells #[.int .i64 0,.int .i64 0,.int .i64 0,.int .i64 0,.bool false,.int .i64 0,.slice none 0 0,.slice none 0 0,.slice none 0 0] 26)=V at H HA ⊢
 go_at_call 21
 refine (ris_stays (r:=isB x) rfl HX.out HA.out).mono ?_
 rintro e' w1 ⟨rfl,hb⟩
 replace H:=Aside0.mk (H.out.call hb)
 replace HA:=Aside0.mk (HA.out.below hb)
 clear hb
 obtain ⟨z0,z1,z2,z3,z4,z5,z6,z7,z8⟩:=cells9 H.out.z
 have fz:=fr_of H.out.z
 cases hI:isB x
 ·skip
  go_wp2_with (fail)
  have hE:=H.out.ret (.int .i64 0) (.int .i64 0) (.int .i64 0) (.int .i64 0) (.bool false) (.int .i64 0) (.slice none 0 0) (.slice none 0 0) (.slice none 0 0)
  refine bodyPost_ret (results_ctt rfl _ _ _ 26 _ (0,0) _ rfl hE.row Tryz.underlying26 rfl (by kernel_rfl)) rfl ?_
  cases (show (zeroNod,_)=(y,e) from by rw [← HE.out];unfold askOf;rw [if_neg (by rw [hI];decide)])
  exact hE.back3 HF.out row9_nil _
 ·have hR:=right_of hI
  have hop:=hR.opened
  have hlead:x.opened.leads=x.leads:=by rw [hop];rfl
  obtain ⟨p0,p1,p2,p3,p4,p5,p6,p7,p8⟩:=cells9 H.out.x
  have fx:=fr_of H.out.x
  go_wp2_with (fail)
  clear p0 p1 p2 p3 p4 p5 p6 p7 p8 fx
  clear z0 z1 z2 z3 z4 z5 z6 z7 z8 fz
  go_at_call 31
  refine (rleads_calls x A6 A7 A8 _ _ _ c6 c7 c8 w1 hR.view0 hR.n7.1).mono ?_
  rintro e' w2 ⟨rfl,hb⟩
  replace H:=Aside0.mk (H.out.call hb)
  replace HA:=Aside0.mk (HA.out.below hb)
  clear hb
  cases hL:x.leads
  ·skip
   obtain ⟨z0,z1,z2,z3,z4,z5,z6,z7,z8⟩:=cells9 H.out.z
   have fz:=fr_of H.out.z
   go_wp2_with (fail)
   have hE:=H.out.ret (.int .i64 0) (.int .i64 0) (.int .i64 0) (.int .i64 0) (.bool false) (.int .i64 0) (.slice none 0 0) (.slice none 0 0) (.slice none 0 0)
   refine bodyPost_ret (results_ctt rfl _ _ _ 26 _ (0,0) _ rfl hE.row Tryz.underlying26 rfl (by kernel_rfl)) rfl ?_
   cases (show (zeroNod,_)=(y,e) from by rw [← HE.out];unfold askOf;rw [if_pos hI,if_neg (by rw [hlead,hL];decide)])
   exact hE.back3 HF.out row9_nil _
  ·have HR:=Aside0.mk hR
   have hl60:=(loggedB_len hR.log).1
   have h3:decide (60≤(x.log.length:Int))=true∨(decide (60≤(x.log.length:Int))=false∧decide (300 < (s.size:Int))=true)∨(decide (60≤(x.log.length:Int))=false∧decide (300 < (s.size:Int))=false):=by cases decide (60≤(x.log.length:Int))<;>cases decide (300 < (s.size:Int))<;>simp
   rcases h3 with c1 | ⟨c1,c2⟩ | ⟨c1,c2⟩
   ·have hq:(x.log.length:Int)=60∨(s.size:Int) > 300:=.inl (by have:=of_decide_eq_true c1;omega)
    obtain ⟨p0,p1,p2,p3,p4,p5,p6,p7,p8⟩:=cells9 H.out.x
    have fx:=fr_of H.out.x
    obtain ⟨z0,z1,z2,z3,z4,z5,z6,z7,z8⟩:=cells9 H.out.z
    have fz:=fr_of H.out.z
    go_wp2_with (fail)
    have hE:=H.out.ret (.int .i64 0) (.int .i64 0) (.int .i64 0) (.int .i64 0) (.bool false) (.int .i64 0) (.slice none 0 0) (.slice none 0 0) (.slice none 0 0)
    refine bodyPost_ret (results_ctt rfl _ _ _ 26 _ (0,0) _ rfl hE.row Tryz.underlying26 rfl (by kernel_rfl)) rfl ?_
    cases (show (zeroNod,_)=(y,e) from by rw [← HE.out];unfold askOf;rw [if_pos hI,if_pos (by rw [hlead,hL]),if_pos hq])
    exact hE.back3 HF.out row9_nil _
   ·have hq:(x.log.length:Int)=60∨(s.size:Int) > 300:=.inr (of_decide_eq_true c2)
    obtain ⟨p0,p1,p2,p3,p4,p5,p6,p7,p8⟩:=cells9 H.out.x
    have fx:=fr_of H.out.x
    obtain ⟨z0,z1,z2,z3,z4,z5,z6,z7,z8⟩:=cells9 H.out.z
    have fz:=fr_of H.out.z
    go_wp2_with (fail)
    have hE:=H.out.ret (.int .i64 0) (.int .i64 0) (.int .i64 0) (.int .i64 0) (.bool false) (.int .i64 0) (.slice none 0 0) (.slice none 0 0) (.slice none 0 0)
    refine bodyPost_ret (results_ctt rfl _ _ _ 26 _ (0,0) _ rfl hE.row Tryz.underlying26 rfl (by kernel_rfl)) rfl ?_
    cases (show (zeroNod,_)=(y,e) from by rw [← HE.out];unfold askOf;rw [if_pos hI,if_pos (by rw [hlead,hL]),if_pos hq])
    exact hE.back3 HF.out row9_nil _
   ·have hq:=And.intro (of_decide_eq_false c1) (of_decide_eq_false c2)
    obtain ⟨p0,p1,p2,p3,p4,p5,p6,p7,p8⟩:=cells9 H.out.x
    have fx:=fr_of H.out.x
    go_wp2_with (fail)
    clear p0 p1 p2 p3 p4 p5 p6 p7 p8 fx
    have HL:=Aside0.mk hl60
    have HG:=Aside0.mk (show Good ({ x with told:=[] } : Nod) from hop ▸ hR.good)
    obtain ⟨he,rfl⟩:=Prod.mk.inj (show ((({ x with told:=[] } : Nod).logs s).counts.tell,(0:Int))=(y,e) from by rw [← HE.out];unfold askOf;rw [if_pos hI,if_pos (by rw [hlead,hL]),if_neg (by show ¬ ((x.log.length:Int)=60∨_);omega),hop])
    have HY:=Aside0.mk he
    clear he HE hR HR hop hlead hq hl60
    go_at_call 5
    refine (rown_calls x A6 A7 A8 c6 c7 c8 w2 HA.out HX.out.log HX.out.acks 1001 (SpecT.own_of _ HX.out.votes HX.out.each _ (by have:=HX.out.votes;omega))).mono ?_
    rintro e w3 ⟨v6,v7,v8,rfl,hres,hb⟩
    replace H:=Aside0.mk ((H.out.call hb).own (hres.own3 (base':=w.heap.size) (Q:=Qn _ w (w.heap.size+1+1)) (fun k hk _=>.inr (Nat.le_trans H.out.s hk)) (by have:=H.out.s;omega)))
    clear hb hres HA
    obtain ⟨D6,d6,D7,d7,D8,d8,rfl,rfl,rfl⟩:=H.out.slices
    obtain ⟨p0,p1,p2,p3,p4,p5,p6,p7,p8⟩:=cells9 H.out.x
    have fx:=fr_of H.out.x
    replace H:=Aside0.mk (H.out.put9 (.int .i64 x.id) (.int .i64 x.n) (.int .i64 x.view) (.int .i64 x.last) (.bool x.works) (.int .i64 x.commit) (.slice D6 x.log.length d6) (.slice D7 x.acks.length d7) (.slice D8 x.votes.length d8))
    have hs:=Aside0.mk H.out.s
    obtain ⟨P,hP,hPf,hPq,hPl⟩:=H.out.o.logged (fun k hk=>.inr (Nat.le_trans hs.out hk))
    have HP:=Aside0.mk (And.intro hP (And.intro hPf (And.intro hPq hPl)))
    clear hP hPf hPq hPl
    go_wp2_with ((with_reducible refine gate_builtin (b:=.append) (xs:=#[.tmp 28,.tmp 30]) rfl ?_);at_builtin;refine Kd.R_append Kd.string (w0:=w) w.heap.size rfl (.tmp 28) (.tmp 30) 22 9 (.string ⟨#[]⟩) 16 rfl Tryz.underlying22 info9 rfl (by decide) (by omega) (.slice D6 x.log.length d6) x.log s [.string s] P (fun _=>False) rfl (by first | (go_simp;done) | (go_simp;rfl)) rfl (fun _ hk=>hk.elim) HP.out.2.1 HP.out.1 H.out.b (by have:=H.out.b.size;exact this) (by have:=HL.out;omega) ?_;intro v1 w4 hr hb hg hat;have hO:=HP.out.2.2.2 s v1 w4 hr hg;have hk:∀ k,k < _→¬ Qn (fun _=>False) w (w.heap.size+1+1) k→w4.heap[k]?=_:=fun k h1 h2=>hg.block k h1 (fun e=>h2 (HP.out.2.2.1 k e.symm));replace H:=Aside0.mk (H.out.callK (hO.mono (fun k h _=>.inl h)) hb hg.size hk);clear hO hk hb hg hat hr p0 p1 p2 p3 p4 p5 p6 p7 p8 fx HP hs;obtain ⟨C6,k6,C7,k7,C8,k8,e6,e7,e8⟩:=H.out.slices;subst e6;cases e7;cases e8;obtain ⟨p0,p1,p2,p3,p4,p5,p6,p7,p8⟩:=cells9 H.out.x;have fx:=fr_of H.out.x)
    clear p0 p1 p2 p3 p4 p5 p6 p7 p8 fx
    generalize hz0:(({ x with told:=[] } : Nod).logs s)=z0 at H HY ⊢
    have hgz:=Aside0.mk (show Good z0 from hz0 ▸ rlogs_good HG.out s (by have:=HL.out;show x.log.length≤900;omega))
    replace H:=Aside0.mk (H.out.put1 6 (.slice C6 z0.log.length k6) (cx':=#[.int .i64 x.id,.int .i64 x.n,.int .i64 x.view,.int .i64 x.last,.bool x.works,.int .i64 x.commit,.slice C6 z0.log.length k6,.slice D7 x.acks.length d7,.slice D8 x.votes.length d8]) rfl)
    generalize w4.setCell ⟨w.heap.size,6,none⟩ (.slice C6 z0.log.length k6)=w5 at H ⊢
    go_at_call 32
    have hc:=rcount_calls z0 hgz.out (Qn (fun _=>False) w (w.heap.size+1+1)) (.slice C6 z0.log.length k6) (.slice D7 x.acks.length d7) (.slice D8 x.votes.length d8) w w5 H.out.b H.out.o
    have hgc:=Aside0.mk (counts_good hgz.out)
    generalize hz:Nod.counts z0=z at hc hgc HY
    subst hz0
    refine hc.mono ?_
    clear hc
    rintro e w6 ⟨u6,u7,u8,rfl,hO,hb,hs,hk⟩
    replace H:=Aside0.mk (H.out.callK hO hb hs hk)
    clear hO hb hs hk
    obtain ⟨E6,j6,E7,j7,E8,j8,rfl,rfl,rfl⟩:=H.out.slices
    obtain ⟨p0,p1,p2,p3,p4,p5,p6,p7,p8⟩:=cells9 H.out.x
    have fx:=fr_of H.out.x
    replace H:=Aside0.mk (H.out.put9 (.int .i64 z.id) (.int .i64 z.n) (.int .i64 z.view) (.int .i64 z.last) (.bool z.works) (.int .i64 z.commit) (.slice E6 z.log.length j6) (.slice E7 z.acks.length j7) (.slice E8 z.votes.length j8))
    go_wp2_with (fail)
    clear p0 p1 p2 p3 p4 p5 p6 p7 p8 fx
    generalize (((((((((w6.setCell ⟨w.heap.size,0,none⟩ (.int .i64 z.id)).setCell ⟨w.heap.size,1,none⟩ (.int .i64 z.n)).setCell ⟨w.heap.size,2,none⟩ (.int .i64 z.view)).setCell ⟨w.heap.size,3,none⟩ (.int .i64 z.last)).setCell ⟨w.heap.size,4,none⟩ (.bool z.works)).setCell ⟨w.heap.size,5,none⟩ (.int .i64 z.commit)).setCell ⟨w.heap.size,6,none⟩ (.slice E6 z.log.length j6)).setCell ⟨w.heap.size,7,none⟩ (.slice E7 z.acks.length j7)).setCell ⟨w.heap.size,8,none⟩ (.slice E8 z.votes.length j8))=w7 at H ⊢
    replace H:=Aside0.mk H.out.drew
    have k0:=cells9 H.out.x
    go_region_held3 (fun W=>W.cell? ⟨w.heap.size,0,none⟩=some (.int .i64 z.id)∧W.cell? ⟨w.heap.size,1,none⟩=some (.int .i64 z.n)∧W.cell? ⟨w.heap.size,2,none⟩=some (.int .i64 z.view)∧W.cell? ⟨w.heap.size,3,none⟩=some (.int .i64 z.last)∧W.cell? ⟨w.heap.size,4,none⟩=some (.bool z.works)∧W.cell? ⟨w.heap.size,5,none⟩=some (.int .i64 z.commit)∧W.cell? ⟨w.heap.size,6,none⟩=some (.slice E6 z.log.length j6)∧W.cell? ⟨w.heap.size,7,none⟩=some (.slice E7 z.acks.length j7)∧W.cell? ⟨w.heap.size,8,none⟩=some (.slice E8 z.votes.length j8))
     (with_reducible first | exact k0 | exact k8 | exact kF)
     (first | (refine x_step_call rfl Tryz.func33 (by kernel_rfl) rfl #[.agg #[.int .i64 z.id,.int .i64 z.n,.int .i64 z.view,.int .i64 z.last,.bool z.works,.int .i64 z.commit,.slice E6 z.log.length j6,.slice E7 z.acks.length j7,.slice E8 z.votes.length j8]] rfl (by simp [Act.eval,Act.put]) ?_;refine (rall_calls z hgc.out.n2 hgc.out.log H.out.o).mono ?_;rintro e w8 ⟨u9,rfl,hS,hb⟩;obtain ⟨C9,k9,rfl⟩:=Kd.S_slice hS;have H8:=Aside0.mk (H.out.call hb);have HS:=Aside0.mk (And.intro H.out.s hS);obtain ⟨z0,z1,z2,z3,z4,z5,z6,z7,z8⟩:=cells9 H8.out.z;have fz:=fr_of H8.out.z;have k8:=cells9 H8.out.x;have kF:=cells9 (far9 H8.out.x (by omega:w.heap.size≠w.heap.size+1) (.int .i64 z.id) (.int .i64 z.n) (.int .i64 z.view) (.int .i64 z.last) (.bool z.works) (.int .i64 z.commit) (.slice E6 z.log.length j6) (.slice E7 z.acks.length j7) (.slice E8 z.votes.length j8));clear hb hS;refine ⟨_,rfl,?_⟩))
    all_goals
     go_wp2
     have et:z.tell.told=z.upto z.n.toNat:=by show z.told++_=_;rw [← hz,(counts_same _).2.2.2.2.2.2.2];rfl
     have hE:=(H8.out.node (y1:=z.tell) rfl rfl rfl).ret (.int .i64 z.id) (.int .i64 z.n) (.int .i64 z.view) (.int .i64 z.last) (.bool z.works) (.int .i64 z.commit) (.slice E6 z.log.length j6) (.slice E7 z.acks.length j7) (.slice E8 z.votes.length j8)
     refine bodyPost_ret (results_ctt rfl _ _ _ 26 _ (0,0) _ rfl hE.row Tryz.underlying26 rfl (by kernel_rfl)) rfl ?_
     cases HY.out
     have h9:=row9_S (Q:=fun k=>w.heap.size+1+1≤k) HS.out.2 (fun k hk _=>Nat.le_trans HS.out.1 hk)
     rw [← et] at h9 ⊢
     exact hE.back3 HF.out ((h9.step (Nat.le_of_eq (size9 _ _ _ _ _ _ _ _ _).symm) (fun k hk _=>keep9 k (by omega) _ _ _ _ _ _ _ _ _)).mono (fun k hk _=>by omega)) _
end
end Go.Proofs.YtfpfpckocemmdaaGreat.P
