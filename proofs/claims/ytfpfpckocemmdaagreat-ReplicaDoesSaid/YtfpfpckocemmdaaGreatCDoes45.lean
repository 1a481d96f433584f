/- Part 45 of the walk. -/
import Derived.Test.YtfpfpckocemmdaaGreatCDoes43
set_option linter.unusedVariables false
set_option linter.unusedSimpArgs false
set_option maxHeartbeats 8000000
set_option maxRecDepth 100000
namespace Go.Proofs.YtfpfpckocemmdaaGreat.P
open Go.RowKit Go.Proofs.YtfpfpckocemmdaaGreatW.PrintWords Go.Proofs.YtfpfpckocemmdaaGreatW.PrintLast Go.Proofs.YtfpfpckocemmdaaGreatW.PrintMore
theorem rmsg_calls {m:S28} (hl:m.f7.length≤1000) {A:Option Addr} {c:Nat} {w:World} (hm:Kd.C Kd.string w A m.f7.length m.f7) (lm:m.f7.length≤c) :
  Calls Tryz.prog 48 #[.agg (mg m A c)] w fun e w'=>e=.returned (.bool (msgB m))∧Below w.heap.size w w':=by
 have hu28:=Tryz.underlying28
 have hu22:=Tryz.underlying22
 have H:=rd1 w (mg m A c) 28
 dsimp only [mg] at H ⊢
 go_enter Tryz.func48,Tryz.ntmps48
 go_upto_region 1 with (fail)
 refine H.gen ?_;clear H;intro V H
 obtain ⟨q0,q1,q2,q3,q4,q5,q6,q7⟩:=cells8 H.x
 go_wp2_with (first | (go_at_call 81;refine (sextonref23_in.calls _ _ _ _ (rin_f _ _)).mono ?_;rintro e' w1 ⟨rfl,hd⟩;replace H:=H.call hd.below;clear hd;obtain ⟨q0,q1,q2,q3,q4,q5,q6,q7⟩:=cells8 H.x) | (go_at_call 62;refine (sextonref23_Log.calls 1001 A c m.f7 _ _ (Kd.C_below hm H.b) lm (rlog_f _ hl _ (Nat.le_refl _))).mono ?_;rintro e' w1 ⟨rfl,hd⟩;replace H:=H.call hd.below;clear hd;obtain ⟨q0,q1,q2,q3,q4,q5,q6,q7⟩:=cells8 H.x))
 all_goals
  go_ret
  refine ⟨?_,H.b⟩
  unfold msgB
  simp only [Bool.not_eq_true',Bool.not_eq_false',beq_eq_false_iff_ne,beq_iff_eq,Bool.not_eq_true,ne_eq] at *
  simp [logged_short, *]<;>rfl
def newOf (id n:Int):Nod×Int:=if sizeB n=true∧0≤id∧id < n then (⟨id,n,0,0,true,0,[],List.replicate n.toNat 0,[],[]⟩,0) else (zeroNod,1)
theorem new17_calls (id n:Int) (w:World) :
  Calls Tryz.prog 17 #[.int .i64 id,.int .i64 n] w fun e w'=>∃ A c,e=.returned (.tuple #[ag (newOf id n).1 (.slice none 0 0) (.slice A (newOf id n).1.acks.length c) (.slice none 0 0),.int .i64 (newOf id n).2])∧Kd.R (Kd.int .i64) 3 w' w.heap.size (fun _=>True) (.slice A (newOf id n).1.acks.length c) (newOf id n).1.acks∧Below w.heap.size w w':=by
 have hu26:=Tryz.underlying26
 have hu23:=Tryz.underlying23
 have H:=rd1 w zer9 26
 dsimp only [ag,row9,zer9] at H ⊢
 obtain ⟨y,hy⟩:∃ y,y=newOf id n:=⟨_,rfl⟩
 rw [← hy]
 replace hy:=Aside0.mk hy
 go_enter Tryz.func17,Tryz.ntmps17
 go_upto_region 1 with (fail)
 refine H.gen ?_;clear H;intro V H
 go_cut [17] (fun s wx=>s=.bool (!(sizeB n && decide (0≤id) && decide (id < n)))∧H.at wx)
 case first =>
  go_wp2_with (go_at_call 58;refine (replica_size.calls _ _ V (size_of n)).mono ?_;rintro e' w1 ⟨rfl,hd⟩;replace H:=H.call hd.below;clear hd)
  all_goals
   go_meet
   exact ⟨by first | (simp [*];done) | (simp [*];rw [Bool.eq_iff_iff];simp;omega),H⟩
 obtain ⟨rfl,H⟩:=hcut
 replace H:Rd _ _ _ _ _:=H
 obtain ⟨p0,p1,p2,p3,p4,p5,p6,p7,p8⟩:=cells9 H.x
 have fx:=fr_of H.x
 cases hs:(sizeB n && decide (0≤id) && decide (id < n))
 ·go_wp2
  obtain rfl:y=(zeroNod,1):=hy.out.trans (if_neg (by rintro ⟨h1,h2,h3⟩;rw [h1,decide_eq_true h2,decide_eq_true h3] at hs;cases hs))
  exact bodyPost_ret (results_ct rfl _ _ _ 26 _ (0,0) _ rfl (putr9 H.x ..) Tryz.underlying26 rfl (by kernel_rfl)) rfl ⟨none,0,rfl,Kd.R_nil _ _ _ _ _,below9 H.b (Nat.le_refl _) ..⟩
 ·simp only [Bool.and_eq_true,decide_eq_true_eq] at hs
  have hn:=(sizeB_iff n).1 hs.1.1
  obtain rfl:y=(⟨id,n,0,0,true,0,[],List.replicate n.toNat 0,[],[]⟩,0):=hy.out.trans (if_pos ⟨hs.1.1,hs.1.2,hs.2⟩)
  clear p0 p1 p2 p3 p4 p5 p6 p7 p8 fx
  go_wp2_with ((with_reducible refine gate_dst (N:=22) rfl ?_);refine Kd.R_make (Kd.int .i64) _ 3 rfl (N:=22) rfl 23 _ _ rfl n rfl rfl Tryz.underlying23 (.int .i64 0) 8 info3 rfl (by decide) (by omega) 0 (ok:=fun _=>True) (okp:=fun _=>True) rfl (fun _ hk=>hk) trivial (by omega) (by omega) (Below.refl _ _) (Nat.le_refl _) ?_;intro v7 w3 hr7 hb _ _;obtain ⟨B7,d7,e7⟩:=Kd.R_slice hr7;rw [List.length_replicate] at e7;subst e7;have hlt:=blk_lt H.x;replace H:=H.call hb;obtain ⟨p0,p1,p2,p3,p4,p5,p6,p7,p8⟩:=cells9 H.x;have fx:=fr_of H.x)
  refine bodyPost_ret (results_ct rfl _ _ _ 26 _ (0,0) _ rfl (putr9 H.x ..) Tryz.underlying26 rfl (by kernel_rfl)) rfl ⟨B7,d7,rfl,?_,below9 H.b (Nat.le_refl _) ..⟩
  replace hr7:=Kd.R_bound hr7
  refine Kd.R_mono (Kd.R_lower (Kd.R_step hr7 ?_) (Nat.le_of_lt hlt)) (fun _ _=>trivial)
  intro k hk hl
  exact keep9 k (by have:wc.heap.size≤k:=hk.2.1;omega) ..
theorem rnew_calls (id n:Int) (w:World) :
  Calls Tryz.prog 18 #[.int .i64 id,.int .i64 n] w fun e w'=>∃ A c,e=.returned (.tuple #[ag (newOf id n).1 (.slice none 0 0) (.slice A (newOf id n).1.acks.length c) (.slice none 0 0),.int .i64 (newOf id n).2])∧Kd.R (Kd.int .i64) 3 w' w.heap.size (fun _=>True) (.slice A (newOf id n).1.acks.length c) (newOf id n).1.acks∧Below w.heap.size w w':=by
 have hu26:=Tryz.underlying26
 have hu23:=Tryz.underlying23
 have H:=rd1 w zer9 26
 dsimp only [ag,row9,zer9] at H ⊢
 obtain ⟨y,hy⟩:∃ y,y=newOf id n:=⟨_,rfl⟩
 rw [← hy]
 replace hy:=Aside0.mk hy
 go_enter Tryz.func18,Tryz.ntmps18
 go_upto_region 1 with (fail)
 refine H.gen ?_;clear H;intro V H
 go_cut [17] (fun s wx=>s=.bool (!(sizeB n && decide (0≤id) && decide (id < n)))∧H.at wx)
 case first =>
  go_wp2_with (go_at_call 59;refine (sextonref24_size.calls _ _ V (size_of n)).mono ?_;rintro e' w1 ⟨rfl,hd⟩;replace H:=H.call hd.below;clear hd)
  all_goals
   go_meet
   exact ⟨by first | (simp [*];done) | (simp [*];rw [Bool.eq_iff_iff];simp;omega),H⟩
 obtain ⟨rfl,H⟩:=hcut
 replace H:Rd _ _ _ _ _:=H
 obtain ⟨p0,p1,p2,p3,p4,p5,p6,p7,p8⟩:=cells9 H.x
 have fx:=fr_of H.x
 cases hs:(sizeB n && decide (0≤id) && decide (id < n))
 ·go_wp2
  obtain rfl:y=(zeroNod,1):=hy.out.trans (if_neg (by rintro ⟨h1,h2,h3⟩;rw [h1,decide_eq_true h2,decide_eq_true h3] at hs;cases hs))
  exact bodyPost_ret (results_ct rfl _ _ _ 26 _ (0,0) _ rfl (putr9 H.x ..) Tryz.underlying26 rfl (by kernel_rfl)) rfl ⟨none,0,rfl,Kd.R_nil _ _ _ _ _,below9 H.b (Nat.le_refl _) ..⟩
 ·simp only [Bool.and_eq_true,decide_eq_true_eq] at hs
  have hn:=(sizeB_iff n).1 hs.1.1
  obtain rfl:y=(⟨id,n,0,0,true,0,[],List.replicate n.toNat 0,[],[]⟩,0):=hy.out.trans (if_pos ⟨hs.1.1,hs.1.2,hs.2⟩)
  clear p0 p1 p2 p3 p4 p5 p6 p7 p8 fx
  go_wp2_with ((with_reducible refine gate_dst (N:=22) rfl ?_);refine Kd.R_make (Kd.int .i64) _ 3 rfl (N:=22) rfl 23 _ _ rfl n rfl rfl Tryz.underlying23 (.int .i64 0) 8 info3 rfl (by decide) (by omega) 0 (ok:=fun _=>True) (okp:=fun _=>True) rfl (fun _ hk=>hk) trivial (by omega) (by omega) (Below.refl _ _) (Nat.le_refl _) ?_;intro v7 w3 hr7 hb _ _;obtain ⟨B7,d7,e7⟩:=Kd.R_slice hr7;rw [List.length_replicate] at e7;subst e7;have hlt:=blk_lt H.x;replace H:=H.call hb;obtain ⟨p0,p1,p2,p3,p4,p5,p6,p7,p8⟩:=cells9 H.x;have fx:=fr_of H.x)
  refine bodyPost_ret (results_ct rfl _ _ _ 26 _ (0,0) _ rfl (putr9 H.x ..) Tryz.underlying26 rfl (by kernel_rfl)) rfl ⟨B7,d7,rfl,?_,below9 H.b (Nat.le_refl _) ..⟩
  replace hr7:=Kd.R_bound hr7
  refine Kd.R_mono (Kd.R_lower (Kd.R_step hr7 ?_) (Nat.le_of_lt hlt)) (fun _ _=>trivial)
  intro k hk hl
  exact keep9 k (by have:wc.heap.size≤k:=hk.2.1;omega) ..
section
attribute [local go_sem] max2_mx min2_mn max_two min_two max_three min_three max_four min_four
theorem rack_new (x y:Nod) (hg:Good x) (ht:x.told=[]) (m:S28) (h0:0≤m.f1) (h1:m.f1 < x.n) (A:Option Addr) (c:Nat) (Q:Nat→Prop) (v6 v7 v8:Value) (w0 w:World) (hB:Below w0.heap.size w0 w) (h:Own3 w w0.heap.size Q x v6 v7 v8) (hy:y=x.ack m) :
  Calls Tryz.prog 50 #[ag x v6 v7 v8,.agg (mg m A c)] w (RM w0 w Q y):=by
 have hu26:=Tryz.underlying26
 have hu28:=Tryz.underlying28
 have hu22:=Tryz.underlying22
 have hu23:=Tryz.underlying23
 have hu24:=Tryz.underlying24
 have hu31:=Tryz.underlying31
 have hu9:=Tryz.underlying9
 obtain ⟨A6,c6,A7,c7,A8,c8,rfl,rfl,rfl,-⟩:=h.reads
 have H:=fr3 hB h m A c
 replace hy:=Aside0.mk hy
 dsimp only [ag,row9,mg,zer9] at H ⊢
 clear h hB
 go_enter Tryz.func50,Tryz.ntmps50
 obtain ⟨p0,p1,p2,p3,p4,p5,p6,p7,p8,fx⟩:=H.xs
 go_wp2_with (fail)
 clear p0 p1 p2 p3 p4 p5 p6 p7 p8 fx
 refine H.genC ?_;clear H;intro V H
 go_at_call 31
 refine (rleads_calls x A6 A7 A8 _ _ _ c6 c7 c8 V hg.view hg.n1).mono ?_
 rintro e w1 ⟨rfl,hb⟩
 replace H:=H.call hb
 clear hb
 cases hL:x.leads
 ·skip
  obtain ⟨p0,p1,p2,p3,p4,p5,p6,p7,p8,fx⟩:=H.xs
  obtain ⟨q0,q1,q2,q3,q4,q5,q6,q7⟩:=cells8 H.m
  obtain ⟨z0,z1,z2,z3,z4,z5,z6,z7,z8,fz⟩:=H.zs
  go_wp2_with (fail)
  rw [hy.out,show x.ack m=x from by unfold Nod.ack;rw [if_neg (by rw [hL];simp)]]
  exact H.done (by rw [ht];exact row9_nil) rfl rfl rfl rfl rfl
 ·skip
  rcases Bool.eq_false_or_eq_true (decide (x.view < m.f3)) with hv | hv
  ·skip
   obtain ⟨p0,p1,p2,p3,p4,p5,p6,p7,p8,fx⟩:=H.xs
   obtain ⟨q0,q1,q2,q3,q4,q5,q6,q7⟩:=cells8 H.m
   obtain ⟨z0,z1,z2,z3,z4,z5,z6,z7,z8,fz⟩:=H.zs
   go_wp2_with (fail)
   rw [hy.out,show x.ack m=x from by unfold Nod.ack;rw [if_neg (by have:=of_decide_eq_true hv;rintro ⟨-,h⟩;omega)]]
   exact H.done (by rw [ht];exact row9_nil) rfl rfl rfl rfl rfl
  ·skip
   replace hy:=Aside0.mk (show y=if (x.acked m).counts.commit > x.commit then (x.acked m).counts.tell else (x.acked m).counts from by rw [hy.out];unfold Nod.ack;rw [if_pos ⟨hL,by have:=of_decide_eq_false hv;omega⟩])
   obtain ⟨p0,p1,p2,p3,p4,p5,p6,p7,p8,fx⟩:=H.xs
   obtain ⟨q0,q1,q2,q3,q4,q5,q6,q7⟩:=cells8 H.m
   go_upto_region 4 with (fail)
   go_cut [] (fun wx=>H.at (x.acked m) wx)
   case first =>
    have hal:m.f1 < (x.acks.length:Int):=by have:=hg.n1;rw [hg.acks];omega
    obtain ⟨ga,d7,e7,hx,hfz,hq,hlt,hge⟩:=H.o.cell7 m.f1 h0 hal
    cases e7
    have g2:w.heap.size≠ga:=by rcases hq with hq | hq<;>omega
    have g4:w.heap.size+1≠ga:=by rcases hq with hq | hq<;>omega
    have p1':=eq_true h0
    have q1':=eq_true hal
    rw [ld3_eq 28]
    go_region_held3 (fun W=>W.cell? ⟨w.heap.size,7,none⟩=some (.slice (some ⟨ga,0,none⟩) x.acks.length c7)∧W.cell? ⟨w.heap.size,6,none⟩=some (.slice A6 x.log.length c6)∧W.cell? ⟨w.heap.size+1,1,none⟩=some (.int .i64 m.f1)∧W.cell? ⟨w.heap.size+1,6,none⟩=some (.int .i64 m.f6)) (first | exact ⟨p7,p6,q1,q6⟩ | exact ⟨blk_cell (blk_far H.x g2 _) 7,blk_cell (blk_far H.x g2 _) 6,blk_cell (blk_far H.m g4 _) 1,blk_cell (blk_far H.m g4 _) 6⟩) (fail)
    all_goals
     go_wp2
     go_meet
     exact (H.drew.callK (y1:=x.acked m) ((H.drew.o.set_ack m.f1 _).mono (fun k h _=>.inl h)) (below_at H.drew.b hge) (Nat.le_of_eq (size1 ..).symm) (fun k h1 h2=>keep1 k (fun e=>h2 (by rw [show k=ga from e];exact hq)) _))
   clear p0 p1 p2 p3 p4 p5 p6 p7 p8 fx q0 q1 q2 q3 q4 q5 q6 q7
   replace H:Fr _ _ _ _ _ _ _ _ _ _ _ _ _ _ _ _:=hcut
   clear hcut
   obtain ⟨p0,p1,p2,p3,p4,p5,p6,p7,p8,fx⟩:=H.xs
   go_wp2_with (fail)
   clear p0 p1 p2 p3 p4 p5 p6 p7 p8 fx
   go_at_call 32
   have hc:=rcount_calls (x.acked m) (acked_good hg m) (Qn Q w (w.heap.size+1+1+1)) _ _ _ w0 _ H.b H.o
   have hgc:=counts_good (acked_good hg m)
   have hzt:=(counts_same (x.acked m)).2.2.2.2.2.2.2.trans (show (x.acked m).told=[] from ht)
   generalize Nod.counts (x.acked m)=z at hc hgc hy hzt
   replace hzt:=Aside0.mk hzt
   refine hc.mono ?_
   clear hc
   rintro e w3 ⟨u6,u7,u8,rfl,hO,hb,hs,hk⟩
   replace H:=H.callK hO hb hs hk
   clear hO hb hs hk
   obtain ⟨E6,j6,E7,j7,E8,j8,rfl,rfl,rfl⟩:=H.slices
   rcases Bool.eq_false_or_eq_true (decide (x.commit < z.commit)) with hv2 | hv2
   ·skip
    obtain ⟨p0,p1,p2,p3,p4,p5,p6,p7,p8,fx⟩:=H.xs
    go_wp2_with (fail)
    clear p0 p1 p2 p3 p4 p5 p6 p7 p8 fx
    refine H.put9k ?_;clear H;intro V H
    replace H:=H.drew
    go_region_held3 (C9 w.heap.size z (.slice E6 z.log.length j6) (.slice E7 z.acks.length j7) (.slice E8 z.votes.length j8)) (with_reducible first | exact cells9 H.x | exact cells9 (H.zz ..)) (first | (refine H.all33 hgc.n2 hgc.log rfl rfl (by simp [Act.eval,Act.put]) ?_;clear H;intro A9 k9 V H h9;obtain ⟨z0,z1,z2,z3,z4,z5,z6,z7,z8,fz⟩:=H.zs))
    all_goals
     go_wp2
     rw [hy.out,if_pos (of_decide_eq_true hv2)]
     exact (H.node (y1:=z.tell) rfl rfl rfl).done (by show Row9 _ _ _ (z.told++_);rw [hzt.out];exact h9) rfl rfl rfl rfl rfl
   ·skip
    obtain ⟨p0,p1,p2,p3,p4,p5,p6,p7,p8,fx⟩:=H.xs
    go_upto_region 8 with (fail)
    clear p0 p1 p2 p3 p4 p5 p6 p7 p8 fx
    refine H.put9k ?_;clear H;intro V H
    obtain ⟨p0,p1,p2,p3,p4,p5,p6,p7,p8,fx⟩:=H.xs
    obtain ⟨z0,z1,z2,z3,z4,z5,z6,z7,z8,fz⟩:=H.zs
    go_wp2_with (fail)
    rw [hy.out,if_neg (of_decide_eq_false hv2)]
    exact H.done (by rw [hzt.out];exact row9_nil) rfl rfl rfl rfl rfl
end
section
attribute [local go_sem] max2_mx min2_mn max_two min_two max_three min_three max_four min_four
theorem rprepare_calls (x y:Nod) (m:S28) (hg:Good x) (ht:x.told=[]) (hv:0≤m.f3) (hl:m.f7.length≤1000) (Q:Nat→Prop) (v6 v7 v8:Value) (w0 w:World) (hB:Below w0.heap.size w0 w) (h:Own3 w w0.heap.size Q x v6 v7 v8) (A:Option Addr) (c:Nat) (hc:m.f7.length≤c) (hM:∀ W:World,w.heap.size≤W.heap.size→(∀ k,k < w.heap.size→¬ Q k→W.heap[k]?=w.heap[k]?)→Kd.C Kd.string W A m.f7.length m.f7) (hy:y=x.prepare m) :
  Calls Tryz.prog 49 #[ag x v6 v7 v8,.agg (mg m A c)] w (RM w0 w Q y):=by
 have hu26:=Tryz.underlying26
 have hu28:=Tryz.underlying28
 have hu22:=Tryz.underlying22
 have hu23:=Tryz.underlying23
 have hu24:=Tryz.underlying24
 have hu31:=Tryz.underlying31
 obtain ⟨A6,c6,A7,c7,A8,c8,rfl,rfl,rfl,-⟩:=h.reads
 have H:=fr3 hB h m A c
 replace hy:=Aside0.mk hy
 have hn0:(x.n==0)=false:=by have:=hg.n1;simp;omega
 have hn1:¬ x.n=0:=by have:=hg.n1;omega
 dsimp only [ag,row9,mg,zer9] at H ⊢
 clear h hB
 go_enter Tryz.func49,Tryz.ntmps49
 go_upto_region 1 with (fail)
 refine H.gen ?_;clear H;intro V H
 obtain ⟨p0,p1,p2,p3,p4,p5,p6,p7,p8,fx⟩:=H.xs
 obtain ⟨q0,q1,q2,q3,q4,q5,q6,q7⟩:=cells8 H.m
 go_cut [13] (fun s wx=>s=.bool (m.f3 % x.n != m.f1)∧H.at x wx)
 case first =>
  go_region
  go_wp2
  go_meet
  exact ⟨rfl,H.drew⟩
 clear p0 p1 p2 p3 p4 p5 p6 p7 p8 fx q0 q1 q2 q3 q4 q5 q6 q7
 obtain ⟨rfl,H⟩:=hcut
 replace H:Fr _ _ _ _ _ _ _ _ _ _ _ _ _ _ _ _:=H
 by_cases hp:m.f3 % x.n=m.f1
 ·rw [bne_eq_false_iff_eq.mpr hp]
  obtain ⟨z,hz⟩:∃ z,z=x.takes m:=⟨_,rfl⟩
  replace hy:=Aside0.mk (show y=(z.settle m).say ((z.settle m).ackOf m) by rw [hy.out,hz];unfold Nod.prepare;rw [if_pos hp])
  go_step
  go_step
  go_step
  go_step
  go_step
  go_step
  obtain ⟨x1,hx1⟩:∃ x1,x1=if m.f3 > x.view∨x.works=false then Nod.clear { x with view:=m.f3,works:=true,last:=m.f3,log:=m.f7 } else x:=⟨_,rfl⟩
  go_cut [0] (fun _ wx=>H.to x1 wx)
  case first =>
   have hN:(decide (x.view < m.f3)=true∨(decide (x.view < m.f3)=false∧x.works=false))∨(decide (x.view < m.f3)=false∧x.works=true):=by cases decide (x.view < m.f3)<;>cases x.works<;>simp
   obtain ⟨p0,p1,p2,p3,p4,p5,p6,p7,p8,fx⟩:=H.xs
   obtain ⟨q0,q1,q2,q3,q4,q5,q6,q7⟩:=cells8 H.m
   rcases hN with hN | ⟨g,hw⟩
   ·replace hx1:=Aside0.mk (hx1.trans (if_pos (hN.elim (fun g=>.inl (of_decide_eq_true g)) (fun g=>.inr g.2))))
    rcases hN with g | ⟨g,hw⟩
    all_goals
     go_upto_region 7 with (fail)
     refine H.put3k rfl ?_
     clear p0 p1 p2 p3 p4 p5 p6 p7 p8 fx q0 q1 q2 q3 q4 q5 q6 q7 g
     intro V H
     obtain ⟨p0,p1,p2,p3,p4,p5,p6,p7,p8,fx⟩:=H.xs
     obtain ⟨q0,q1,q2,q3,q4,q5,q6,q7⟩:=cells8 H.m
     go_wp2_with (fail)
     clear p0 p1 p2 p3 p4 p5 p6 p7 p8 fx q0 q1 q2 q3 q4 q5 q6 q7
     go_at_call 24
     refine (sextonref01_Own.calls A c m.f7 m.f7 V (H.kept hM) hc (SpecT.ownTexts_of m.f7 (by omega))).mono ?_
     rintro e w5 ⟨v5,rfl,hr5,hb⟩
     obtain ⟨B6,d6,rfl⟩:=Kd.R_slice hr5
     have hs:=H.s
     replace H:=(H.call hb).own (H.o.with_log hb (by have:=H.b.size;have:=H.ax;omega) hr5 (fun k hk=>.inr (Nat.le_trans hs hk)))
     clear hb hr5 hs
     obtain ⟨p0,p1,p2,p3,p4,p5,p6,p7,p8,fx⟩:=H.xs
     go_upto_region 8 with (fail)
     refine H.put1k rfl ?_
     clear p0 p1 p2 p3 p4 p5 p6 p7 p8 fx
     intro V H
     replace H:=H.as (y1:={ x with view:=m.f3,works:=true,last:=m.f3,log:=m.f7 }) rfl rfl rfl rfl
     obtain ⟨p0,p1,p2,p3,p4,p5,p6,p7,p8,fx⟩:=H.xs
     go_upto_region 9 with (refine H.make7 (N:=38) rfl rfl rfl rfl rfl hg.n1 hg.n2 ?_;clear p0 p1 p2 p3 p4 p5 p6 p7 p8 fx;intro B7 d7 V H;obtain ⟨p0,p1,p2,p3,p4,p5,p6,p7,p8,fx⟩:=H.xs)
     refine H.put1k rfl ?_
     clear p0 p1 p2 p3 p4 p5 p6 p7 p8 fx
     intro V H
     obtain ⟨p0,p1,p2,p3,p4,p5,p6,p7,p8,fx⟩:=H.xs
     go_wp2
     go_meet
     have h:=H.put1 8 (.slice none 0 0) rfl
     rw [hx1.out]
     exact ⟨_,_,_,(h.own h.o.no_votes).as (y1:=Nod.clear _) rfl rfl rfl rfl⟩
   ·go_wp2
    go_meet
    rw [hx1,if_neg (by rw [hw];have:=of_decide_eq_false g;simp;omega)]
    exact ⟨_,_,_,H⟩
  obtain ⟨u6,u7,u8,H⟩:=hcut
  obtain ⟨B6,d6,B7,d7,B8,d8,rfl,rfl,rfl⟩:=H.slices
  have hz2:z=if x1.log.length < m.f7.length then { x1 with log:=m.f7 } else x1:=by
   rw [hz,hx1];unfold Nod.takes
   split
   ·rw [if_neg (by show ¬ m.f7.length < _;omega)]
   ·rfl
  have hz1:z.told=[]:=by
   rw [hz];unfold Nod.takes
   split
   ·exact ht
   ·split<;>exact ht
  clear hz hx1
  go_step
  go_step
  go_cut [] (fun wx=>H.to z wx)
  case first =>
   obtain ⟨p0,p1,p2,p3,p4,p5,p6,p7,p8,fx⟩:=H.xs
   obtain ⟨q0,q1,q2,q3,q4,q5,q6,q7⟩:=cells8 H.m
   by_cases g:x1.log.length < m.f7.length
   ·go_wp2_with (fail)
    clear p0 p1 p2 p3 p4 p5 p6 p7 p8 fx q0 q1 q2 q3 q4 q5 q6 q7
    go_at_call 24
    refine (sextonref01_Own.calls A c m.f7 m.f7 wc (H.kept hM) hc (SpecT.ownTexts_of m.f7 (by omega))).mono ?_
    rintro e w5 ⟨v5,rfl,hr5,hb⟩
    obtain ⟨D6,k6,rfl⟩:=Kd.R_slice hr5
    have hs:=H.s
    have h:=(H.call hb).own (H.o.with_log hb (by have:=H.b.size;have:=H.ax;omega) hr5 (fun k hk=>.inr (Nat.le_trans hs hk)))
    obtain ⟨p0,p1,p2,p3,p4,p5,p6,p7,p8,fx⟩:=h.xs
    go_wp2
    go_meet
    rw [hz2,if_pos g]
    exact ⟨_,_,_,(h.put1 6 _ rfl).as (y1:={ x1 with log:=m.f7 }) rfl rfl rfl rfl⟩
   ·go_wp2
    go_meet
    rw [hz2,if_neg g]
    exact ⟨_,_,_,H⟩
  obtain ⟨u6,u7,u8,H⟩:=hcut
  obtain ⟨D6,k6,D7,k7,D8,k8,rfl,rfl,rfl⟩:=H.slices
  clear hz2
  obtain ⟨p0,p1,p2,p3,p4,p5,p6,p7,p8,fx⟩:=H.xs
  obtain ⟨q0,q1,q2,q3,q4,q5,q6,q7⟩:=cells8 H.m
  go_upto_region 13 with (fail)
  refine H.put1k rfl ?_
  clear p0 p1 p2 p3 p4 p5 p6 p7 p8 fx q0 q1 q2 q3 q4 q5 q6 q7
  intro V H
  have h:=(H.as (y1:=z.settle m) rfl rfl rfl rfl).drew
  clear H
  obtain ⟨zt,e2⟩:∃ zt,zt=z.settle m:=⟨_,rfl⟩
  rw [← e2] at h hy
  have hz3:=Aside0.mk (show zt.told=[] by rw [e2];exact hz1)
  have hne:w.heap.size+1≠w.heap.size+1+1:=by omega
  have e6:zt.log=z.log:=by rw [e2];rfl
  have e7:zt.acks=z.acks:=by rw [e2];rfl
  have e8:zt.votes=z.votes:=by rw [e2];rfl
  rw [← e6,← e7,← e8] at h
  clear e2 e6 e7 e8 hz1
  go_region_held3 (fun W=>W.cell? ⟨w.heap.size+1,1,none⟩=some (.int .i64 m.f1)∧C9 w.heap.size zt (.slice D6 zt.log.length k6) (.slice D7 zt.acks.length k7) (.slice D8 zt.votes.length k8) W)
   (with_reducible first | exact ⟨(cells8 h.m).2.1,cells9 h.x⟩ | exact ⟨(cells8 (h.al _).m).2.1,cells9 (h.al _).x⟩ | exact ⟨(cells8 (h.pz hne).m).2.1,cells9 (h.pz hne).x⟩ | exact ⟨(cells8 ((h.al _).pz hne).m).2.1,cells9 ((h.al _).pz hne).x⟩ | exact ⟨(cells8 ((h.pz hne).al _).m).2.1,cells9 ((h.pz hne).al _).x⟩)
   (first | (refine x_step_call rfl Tryz.func82 (by kernel_rfl) rfl #[.int .i64 zt.id,.int .i64 m.f1,.int .i64 zt.view,.int .i64 (zt.log.length:Int)] rfl (by simp [Act.eval,Act.put]) ?_;refine (sextonref23_Ack.calls _ _ _ _ _ _ _ _ _ _ _ _ _ rfl).mono ?_;rintro e w8 ⟨v7,rfl,hr8,hb⟩;have hs:=h.s;replace h:=h.call hb;obtain ⟨z0,z1,z2,z3,z4,z5,z6,z7,z8,fz⟩:=h.zs;have za:=fun o=>(h.al o).zs;refine ⟨_,rfl,?_⟩))
  ·go_wp2
   rw [hy.out]
   exact (h.node (y1:=zt.say (zt.ackOf m)) rfl rfl rfl).sayd (m:=zt.ackOf m) (said_a h.z ..) (by show zt.told++_=_;rw [hz3.out];rfl) hr8 hs rfl rfl rfl rfl rfl
  ·go_wp2
   rw [hy.out]
   exact (h.node (y1:=zt.say (zt.ackOf m)) rfl rfl rfl).sayd (m:=zt.ackOf m) (said_b h.z ..) (by show zt.told++_=_;rw [hz3.out];rfl) hr8 hs rfl rfl rfl rfl rfl
 ·rw [bne_iff_ne.mpr hp]
  obtain ⟨p0,p1,p2,p3,p4,p5,p6,p7,p8,fx⟩:=H.xs
  obtain ⟨z0,z1,z2,z3,z4,z5,z6,z7,z8,fz⟩:=H.zs
  go_wp2_with (fail)
  rw [hy.out,show x.prepare m=x from by unfold Nod.prepare;rw [if_neg hp]]
  exact H.done (by rw [ht];exact row9_nil) rfl rfl rfl rfl rfl
end
end Go.Proofs.YtfpfpckocemmdaaGreat.P
