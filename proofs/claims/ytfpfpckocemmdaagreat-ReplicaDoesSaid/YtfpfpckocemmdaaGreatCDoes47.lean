/- Part 47 of the walk. -/
import Derived.Test.YtfpfpckocemmdaaGreatCDoes43
import Derived.Test.YtfpfpckocemmdaaGreatCDoes46
set_option linter.unusedVariables false
set_option linter.unusedSimpArgs false
set_option maxHeartbeats 8000000
set_option maxRecDepth 100000
namespace Go.Proofs.YtfpfpckocemmdaaGreat.P
open Go.RowKit Go.Proofs.YtfpfpckocemmdaaGreatW.PrintWords Go.Proofs.YtfpfpckocemmdaaGreatW.PrintLast Go.Proofs.YtfpfpckocemmdaaGreatW.PrintMore
section
attribute [local go_sem] max2_mx min2_mn max_two min_two max_three min_three max_four min_four
theorem rbegin_new (x y:Nod) (hg:Good x) (ht:x.told=[]) (Q:Nat→Prop) (v6 v7 v8:Value) (w0 w:World) (hB:Below w0.heap.size w0 w) (h:Own3 w w0.heap.size Q x v6 v7 v8) (hy:y=x.begin_) :
  Calls Tryz.prog 43 #[ag x v6 v7 v8] w (RM w0 w Q y):=by
 have hu26:=Tryz.underlying26
 have hu22:=Tryz.underlying22
 have hu23:=Tryz.underlying23
 have hu24:=Tryz.underlying24
 have hu31:=Tryz.underlying31
 have hu63:=Tryz.underlying63
 have hu9:=Tryz.underlying9
 obtain ⟨A6,c6,A7,c7,A8,c8,rfl,rfl,rfl,-⟩:=h.reads
 have H:=fr2 hB h
 replace hy:=Aside0.mk hy
 dsimp only [ag,row9,zer9] at H ⊢
 clear h hB
 go_enter Tryz.func43,Tryz.ntmps43
 go_upto_region 1 with (fail)
 refine H.gen ?_;clear H;intro V H
 obtain ⟨p0,p1,p2,p3,p4,p5,p6,p7,p8,fx⟩:=H.xs
 rcases Bool.eq_false_or_eq_true x.works with hw | hw
 ·obtain ⟨z0,z1,z2,z3,z4,z5,z6,z7,z8,fz⟩:=H.zs
  go_wp2_with (fail)
  rw [hy.out,show x.begin_=x from by unfold Nod.begin_ Nod.may;rw [hw];rfl]
  exact H.done (by rw [ht];exact row9_nil) (by rw [← hw]) rfl rfl rfl rfl
 ·go_wp2_with (fail)
  clear p0 p1 p2 p3 p4 p5 p6 p7 p8 fx
  go_at_call 40
  have hP:=rprimary_calls x x.view A6 A7 A8 x.log.length x.acks.length x.votes.length c6 c7 c8 V hg.view hg.n1
  rw [hw] at hP
  refine hP.mono ?_
  clear hP
  rintro e w1 ⟨rfl,hb⟩
  replace H:=H.call hb
  clear hb
  obtain ⟨p0,p1,p2,p3,p4,p5,p6,p7,p8,fx⟩:=H.xs
  rcases Bool.eq_false_or_eq_true (x.prim x.view) with hp | hp
  ·go_wp2_with (fail)
   go_at_call 75
   obtain ⟨k,hk⟩:=(renough_f x.votes x.n hg.n1 hg.n2 hg.votes (fun v hv=>⟨(hg.each v hv).1,(hg.each v hv).2.1⟩)).rounds
   refine (sextonref22_Enough.calls k A8 c8 x.votes x.n _ w1 (sl8 H.o).1 (sl8 H.o).2 hk).mono ?_
   rintro e w2 ⟨rfl,hd⟩
   replace H:=H.call hd.below
   clear hd hk p0 p1 p2 p3 p4 p5 p6 p7 p8 fx
   obtain ⟨p0,p1,p2,p3,p4,p5,p6,p7,p8,fx⟩:=H.xs
   rcases Bool.eq_false_or_eq_true (enoughOf x.votes x.n) with he | he
   ·have hne:=enough_ne x.votes x.n hg.n1 he
    replace hy:=Aside0.mk (show y=x.rise.clear.counts.tell from by rw [hy.out];unfold Nod.begin_ Nod.may;rw [hw,hp,he];rfl)
    go_wp2_with (fail)
    clear p0 p1 p2 p3 p4 p5 p6 p7 p8 fx
    go_at_call 76
    refine (rbest_calls (l:=x.votes) rfl hne hg.votes (fun v hv=>(hg.each v hv).2.2) (sl8 H.o).1).mono ?_
    generalize hbe:bestOf x.votes=be
    rintro e w3 ⟨v3,rfl,hr,hb⟩
    obtain ⟨AB,cB,rfl⟩:=Kd.R_slice hr
    replace H:=H.call hb
    go_upto_region 4 with (fail)
    refine H.boxk hr ?_;clear H hr hb;intro V2 H hx hr
    go_wp2_with (fail)
    go_loopg [6,7] x.votes.length (fun kq s6 s7 w'=>∃ i:Nat,s7=.int .i64 (i:Int)∧s6=.int .i64 (mostOf (x.votes.take i))∧Aside0 (kq=x.votes.length - i∧i≤x.votes.length)∧w'=V2)
    case atStart=>exact ⟨0,rfl,rfl,⟨by simp⟩,rfl⟩
    case round =>
     obtain ⟨i,rfl,rfl,hi,rfl⟩:=hrel
     obtain ⟨p0,p1,p2,p3,p4,p5,p6,p7,p8,fx⟩:=H.xs
     by_cases hlt:i < x.votes.length
     ·have hb1:decide ((i:Int) < (x.votes.length:Int))=true:=decide_eq_true (by omega)
      have p1':(0:Int)≤(i:Int):=by omega
      have q1':(i:Int) < (x.votes.length:Int):=by omega
      obtain ⟨ad2,A3,c3,rfl,hy0,hy1,hy2,hy3,hly,hiy⟩:=at_T63 (sl8 H.o).1 (i:Int) p1' q1'
      simp only [Int.toNat_natCast] at hy0 hy1 hy2 hy3
      have hT:=Aside0.mk (show x.votes.take (i+1)=x.votes.take i++[rd_T63 x.votes (i:Int)] by
       rw [List.take_succ_eq_append_getElem hlt]
       simp [rd_T63,List.getD_eq_getElem?_getD,List.getElem?_eq_getElem hlt])
      replace p1':=eq_true p1'
      replace q1':=eq_true q1'
      go_wp2
      go_roundg (x.votes.length - (i+1))
      case measure=>have:=hi.out.1;omega
      case rel=>exact ⟨i+1,by rw [show wrap64 ((i:Int)+1)=((i+1:Nat):Int) by have:=hg.votes;unfold wrap64;omega],by rw [hT.out,mostOf_append],⟨by have:=hi.out;omega,by omega⟩,rfl⟩
     ·have hb1:decide ((i:Int) < (x.votes.length:Int))=false:=decide_eq_false (by omega)
      rw [show i=x.votes.length by have:=hi.out;omega,List.take_length]
      clear hi hlt
      obtain ⟨q0,q1,q2,q3⟩:=cells4 hx
      go_wp2_with (fail)
      clear p0 p1 p2 p3 p4 p5 p6 p7 p8 fx q0 q1 q2 q3 hb1 hx
      go_at_call 24
      refine (sextonref01_Own.calls AB cB be.f3 be.f3 wr (Kd.R_reads' hr).2.2 (Kd.R_reads' hr).2.1 (SpecT.ownTexts_of be.f3 (by have:=best_small hg hne;rw [hbe] at this;omega))).mono ?_
      rintro e w5 ⟨v5,rfl,hr5,hb⟩
      obtain ⟨B6,d6,rfl⟩:=Kd.R_slice hr5
      have hs:=H.s
      replace H:=(H.call hb).own (H.o.with_log hb (by have:=H.b.size;have:=H.ax;omega) hr5 (fun k hk=>.inr (Nat.le_trans hs hk)))
      clear hb hr5 hr hs
      obtain ⟨p0,p1,p2,p3,p4,p5,p6,p7,p8,fx⟩:=H.xs
      go_upto_region 13 with (fail)
      refine H.put4k rfl ?_;clear H p0 p1 p2 p3 p4 p5 p6 p7 p8 fx;intro V H
      subst hbe
      replace H:=H.node (y1:=x.rise) rfl rfl rfl
      obtain ⟨p0,p1,p2,p3,p4,p5,p6,p7,p8,fx⟩:=H.xs
      go_upto_region 15 with (refine H.make7 (N:=63) rfl rfl rfl rfl rfl hg.n1 hg.n2 ?_;clear H p0 p1 p2 p3 p4 p5 p6 p7 p8 fx;intro B7 d7 V H;obtain ⟨p0,p1,p2,p3,p4,p5,p6,p7,p8,fx⟩:=H.xs)
      refine H.put2k rfl ?_;clear H p0 p1 p2 p3 p4 p5 p6 p7 p8 fx;intro V H
      replace H:=H.own H.o.no_votes
      obtain ⟨p0,p1,p2,p3,p4,p5,p6,p7,p8,fx⟩:=H.xs
      go_wp2_with (fail)
      clear p0 p1 p2 p3 p4 p5 p6 p7 p8 fx
      go_at_call 32
      have hgc:=counts_good (rise_clear_good hg hne)
      have hc:=rcount_calls x.rise.clear (rise_clear_good hg hne) (Qn Q w (w.heap.size+1+1)) _ _ _ w0 _ H.b H.o
      have hzt:=(counts_same x.rise.clear).2.2.2.2.2.2.2.trans (show x.rise.clear.told=[] from ht)
      generalize Nod.counts x.rise.clear=z at hc hgc hy hzt
      replace hzt:=Aside0.mk hzt
      refine hc.mono ?_
      clear hc
      rintro e w6 ⟨u6,u7,u8,rfl,hO,hb,hs,hk⟩
      replace H:=H.callK hO hb hs hk
      clear hO hb hs hk
      obtain ⟨E6,j6,E7,j7,E8,j8,rfl,rfl,rfl⟩:=H.slices
      obtain ⟨p0,p1,p2,p3,p4,p5,p6,p7,p8,fx⟩:=H.xs
      go_wp2_with (fail)
      clear p0 p1 p2 p3 p4 p5 p6 p7 p8 fx
      refine H.put9k ?_;clear H;intro V H
      replace H:=H.drew
      go_region_held3 (C9 w.heap.size z (.slice E6 z.log.length j6) (.slice E7 z.acks.length j7) (.slice E8 z.votes.length j8)) (with_reducible first | exact cells9 H.x | exact cells9 (H.zz ..)) (first | (refine H.all33 hgc.n2 hgc.log rfl rfl (by simp [Act.eval,Act.put]) ?_;clear H;intro A9 k9 V H h9;obtain ⟨z0,z1,z2,z3,z4,z5,z6,z7,z8,fz⟩:=H.zs))
      all_goals
       go_wp2
       rw [hy.out]
       exact (H.node (y1:=z.tell) rfl rfl rfl).done (by show Row9 _ _ _ (z.told++_);rw [hzt.out];exact h9) rfl rfl rfl rfl rfl
   ·obtain ⟨z0,z1,z2,z3,z4,z5,z6,z7,z8,fz⟩:=H.zs
    go_wp2_with (fail)
    rw [hy.out,show x.begin_=x from by unfold Nod.begin_ Nod.may;rw [he];simp]
    exact H.done (by rw [ht];exact row9_nil) (by rw [← hw]) rfl rfl rfl rfl
  ·obtain ⟨z0,z1,z2,z3,z4,z5,z6,z7,z8,fz⟩:=H.zs
   go_wp2_with (fail)
   rw [hy.out,show x.begin_=x from by unfold Nod.begin_ Nod.may;rw [hp];simp]
   exact H.done (by rw [ht];exact row9_nil) (by rw [← hw]) rfl rfl rfl rfl
end
theorem radd_calls {l:List S63} {v:S63} (hl:l.length≤1000) (he:∀ v,v∈l→v.f3.length≤1000) (hv:v.f3.length≤1000) {A C:Option Addr} {a c:Nat} {w:World} (hA:Kd.C k63 w A l.length l) (hC:Kd.C Kd.string w C v.f3.length v.f3) (lc:v.f3.length≤c) :
  Calls Tryz.prog 84 #[.slice A l.length a,.agg #[.int .i64 v.f0,.int .i64 v.f1,.int .i64 v.f2,.slice C v.f3.length c]] w fun e w'=>∃ v0,e=.returned v0∧Kd.S k63 63 w' w.heap.size (fun _=>True) v0 (addTo l v)∧Below w.heap.size w w':=by
 have hu63:=Tryz.underlying63
 have hu24:=Tryz.underlying24
 have hu22:=Tryz.underlying22
 have H:=rd1 w #[.int .i64 v.f0,.int .i64 v.f1,.int .i64 v.f2,.slice C v.f3.length c] 63
 go_enter Tryz.func84,Tryz.ntmps84
 go_upto_region 1 with (fail)
 refine H.gen ?_;clear H;intro V H
 go_wp2_with (fail)
 go_loopg [5,6] l.length (fun kq s5 s6 w'=>∃ (i:Nat) (B:Option Addr) (b:Nat),s6=.int .i64 (i:Int)∧s5=.slice B ((l.take i).filter (fun y=>y.f0≠v.f0)).length b∧Aside0 (kq=l.length - i∧i≤l.length)∧Aside0 (Kd.S k63 63 w' (w.heap.size+1) (fun _=>True) s5 ((l.take i).filter (fun y=>y.f0≠v.f0)))∧H.at w')
 case atStart=>exact ⟨0,none,0,rfl,rfl,⟨by simp⟩,⟨by simpa using Kd.S_nil k63 63 V (w.heap.size+1) (fun _=>True)⟩,H⟩
 case round =>
  obtain ⟨i,B,b,rfl,rfl,hi,hS,H⟩:=hrel
  replace H:Rd _ _ _ _ _:=H
  have hal:((l.take i).filter (fun y=>y.f0≠v.f0)).length≤1000:=Nat.le_trans (List.length_filter_le ..) (by rw [List.length_take];omega)
  obtain ⟨q0,q1,q2,q3⟩:=cells4 H.x
  by_cases hlt:i < l.length
  ·have hb1:decide ((i:Int) < (l.length:Int))=true:=decide_eq_true (by omega)
   obtain ⟨ad,A3,c3,rfl,ra,la,hca⟩:=at4 (Kd.C_below hA H.b) i hlt
   have hyl:=he _ (List.getElem_mem hlt)
   have hT:=Aside0.mk (show (l.take (i+1)).filter (fun y=>y.f0≠v.f0)=(l.take i).filter (fun y=>y.f0≠v.f0)++if (l[i]).f0≠v.f0 then [l[i]] else [] by rw [List.take_succ_eq_append_getElem hlt,List.filter_append];simp [List.filter_cons])
   generalize l[i]=y at ra la hca hyl hT
   generalize (l.take i).filter (fun y=>y.f0≠v.f0)=acc at hS hal hT ⊢
   have p1':=eq_true (show (0:Int)≤(i:Int) by omega)
   have q1':=eq_true (show (i:Int) < (l.length:Int) by omega)
   go_upto_region 5 with (fail)
   go_cut [22] (fun s wx=>s=.bool (y.f0 != v.f0)∧wx=wr.drew)
   case first =>
    go_region_held3 (fun W=>R4 (ad.add (i * 4)) y (.slice A3 y.f3.length c3) W∧W.cell? ⟨w.heap.size,0,none⟩=some (.int .i64 v.f0)) (exact ⟨ra,q0⟩) (fail)
    go_wp2
    go_meet
    exact ⟨rfl,rfl⟩
   obtain ⟨rfl,rfl⟩:=hcut
   replace H:=H.drew
   replace hS:=Aside0.mk (Kd.S_drew hS.out)
   replace hca:=Kd.C_drew hca
   replace ra:R4 _ _ _ wr.drew:=ra
   generalize wr.drew=W at H hS hca ra ⊢
   have hne:∀ k,W.heap.size≤k→some k≠(Value.slice B acc.length b).ownBlock:=fun k hk h=>absurd (Kd.S_lt hS.out k h.symm) (by omega)
   cases hf:(y.f0 != v.f0)
   ·go_wp2
    go_roundg (l.length - (i+1))
    case measure=>have:=hi.out.1;omega
    case rel =>
     rw [if_neg (by simpa using hf),List.append_nil] at hT
     exact ⟨i+1,B,b,rfl,by rw [hT.out],⟨rfl,by omega⟩,by rw [hT.out];exact hS,H⟩
   ·obtain ⟨a0,a1,a2,a3⟩:=ra
    obtain ⟨q0,q1,q2,q3⟩:=cells4 H.x
    go_wp2_with (fail)
    clear q0 q1 q2 q3 a0 a1 a2 a3
    go_at_call 65
    refine (sextonref22_OwnVote.calls _ _ _ A3 c3 y.f3 _ _ _ _ W hca la (SpecT.ownVote_of _ _ _ _ (by omega))).mono ?_
    rintro e w1 ⟨u3,rfl,hr,hb⟩
    obtain ⟨D3,k3,rfl⟩:=Kd.R_slice hr
    have hs:=blk_lt H.x
    replace H:=(H.call hb).call (below_alloc (Below.refl _ _) (.cells #[.int .i64 y.f0,.int .i64 y.f1,.int .i64 y.f2,.slice D3 y.f3.length k3] 63))
    have hO:=Kd.S_alloc (Kd.S_below (Kd.S_bound hS.out) hb) (.cells #[.int .i64 y.f0,.int .i64 y.f1,.int .i64 y.f2,.slice D3 y.f3.length k3] 63)
    have hr:=Kd.R_alloc (Kd.R_lower (Kd.R_bound hr) (show w.heap.size+1≤W.heap.size from hs)) (.cells #[.int .i64 y.f0,.int .i64 y.f1,.int .i64 y.f2,.slice D3 y.f3.length k3] 63)
    have hM:=k63_mkM (w1.alloc (.cells #[.int .i64 y.f0,.int .i64 y.f1,.int .i64 y.f2,.slice D3 y.f3.length k3] 63)) (w.heap.size+1) (fun k=>W.heap.size≤k) y (Kd.R_mono hr (fun k hk=>hk.2.1))
    have hO:=Kd.S_mono (ok':=fun k=>True∧¬ W.heap.size≤k) hO (fun k hk=>⟨trivial,by have:=hk.2.2.1;omega⟩)
    obtain ⟨r0,r1,r2,r3⟩:=cells4 (x_alloc_new w1 (.cells #[.int .i64 y.f0,.int .i64 y.f1,.int .i64 y.f2,.slice D3 y.f3.length k3] 63))
    have hs2:=blk_lt H.x
    clear hr hb hS
    go_wp2_with ((with_reducible refine gate_builtin (b:=.append) (xs:=#[.tmp 28,.tmp 30]) rfl ?_);at_builtin;refine Kd.S_append k63 (w0:=w1.alloc (.cells #[.int .i64 y.f0,.int .i64 y.f1,.int .i64 y.f2,.slice D3 y.f3.length k3] 63)) (w.heap.size+1) rfl (.tmp 28) (.tmp 30) 24 63 (.agg #[.int .i64 0,.int .i64 0,.int .i64 0,.slice none 0 0]) 48 rfl Tryz.underlying24 info63 rfl (by decide) (by omega) (.slice B acc.length b) acc y [.int .i64 y.f0,.int .i64 y.f1,.int .i64 y.f2,.slice D3 y.f3.length k3] (fun _=>True) (fun k=>W.heap.size≤k) rfl (by first | (go_simp;done) | (go_simp;rfl)) hM (fun k hk=>⟨trivial,hne k hk⟩) (fun _ _=>trivial) hO (Below.refl _ _) hs2 (by omega) ?_;intro v1 W1 hS1 hb1 hg1 hat1;obtain ⟨B1,b1,rfl⟩:=Kd.S_slice hS1)
    replace H:Rd _ W1 _ _ _:=⟨(hb1.block _ (Nat.lt_succ_self _)).trans H.x,H.b.trans (below_weak hb1 (Nat.le_succ _))⟩
    rw [List.length_append] at hS1
    go_roundg (l.length - (i+1))
    case measure=>have:=hi.out.1;omega
    case rel =>
     rw [if_pos (by simpa using hf)] at hT
     exact ⟨i+1,B1,b1,rfl,by rw [hT.out,List.length_append];rfl,⟨rfl,by omega⟩,by rw [hT.out];exact ⟨hS1⟩,H⟩
  ·have hb1:decide ((i:Int) < (l.length:Int))=false:=decide_eq_false (by omega)
   rw [show i=l.length by have:=hi.out;omega,List.take_length] at hS hal ⊢
   have hT:addTo l v=l.filter (fun y=>y.f0≠v.f0)++[v]:=rfl
   generalize l.filter (fun y=>y.f0≠v.f0)=acc at hS hal hT ⊢
   have hne:∀ k,wr.heap.size≤k→some k≠(Value.slice B acc.length b).ownBlock:=fun k hk h=>absurd (Kd.S_lt hS.out k h.symm) (by omega)
   go_wp2_with (fail)
   clear q0 q1 q2 q3
   go_at_call 65
   refine (sextonref22_OwnVote.calls _ _ _ C c v.f3 _ _ _ _ wr (Kd.C_below hC H.b) lc (SpecT.ownVote_of _ _ _ _ (by omega))).mono ?_
   rintro e w1 ⟨u3,rfl,hr,hb⟩
   obtain ⟨D3,k3,rfl⟩:=Kd.R_slice hr
   have hs:=blk_lt H.x
   replace H:=(H.call hb).call (below_alloc (Below.refl _ _) (.cells #[.int .i64 v.f0,.int .i64 v.f1,.int .i64 v.f2,.slice D3 v.f3.length k3] 63))
   have hO:=Kd.S_alloc (Kd.S_below (Kd.S_bound hS.out) hb) (.cells #[.int .i64 v.f0,.int .i64 v.f1,.int .i64 v.f2,.slice D3 v.f3.length k3] 63)
   have hr:=Kd.R_alloc (Kd.R_lower (Kd.R_bound hr) (show w.heap.size+1≤wr.heap.size from hs)) (.cells #[.int .i64 v.f0,.int .i64 v.f1,.int .i64 v.f2,.slice D3 v.f3.length k3] 63)
   have hM:=k63_mkM (w1.alloc (.cells #[.int .i64 v.f0,.int .i64 v.f1,.int .i64 v.f2,.slice D3 v.f3.length k3] 63)) (w.heap.size+1) (fun k=>wr.heap.size≤k) v (Kd.R_mono hr (fun k hk=>hk.2.1))
   have hO:=Kd.S_mono (ok':=fun k=>True∧¬ wr.heap.size≤k) hO (fun k hk=>⟨trivial,by have:=hk.2.2.1;omega⟩)
   obtain ⟨r0,r1,r2,r3⟩:=cells4 (x_alloc_new w1 (.cells #[.int .i64 v.f0,.int .i64 v.f1,.int .i64 v.f2,.slice D3 v.f3.length k3] 63))
   have hs2:=blk_lt H.x
   clear hr hb hS
   go_wp2_with ((with_reducible refine gate_builtin (b:=.append) (xs:=#[.tmp 34,.tmp 36]) rfl ?_);at_builtin;refine Kd.S_append k63 (w0:=w1.alloc (.cells #[.int .i64 v.f0,.int .i64 v.f1,.int .i64 v.f2,.slice D3 v.f3.length k3] 63)) (w.heap.size+1) rfl (.tmp 34) (.tmp 36) 24 63 (.agg #[.int .i64 0,.int .i64 0,.int .i64 0,.slice none 0 0]) 48 rfl Tryz.underlying24 info63 rfl (by decide) (by omega) (.slice B acc.length b) acc v [.int .i64 v.f0,.int .i64 v.f1,.int .i64 v.f2,.slice D3 v.f3.length k3] (fun _=>True) (fun k=>wr.heap.size≤k) rfl (by first | (go_simp;done) | (go_simp;rfl)) hM (fun k hk=>⟨trivial,hne k hk⟩) (fun _ _=>trivial) hO (Below.refl _ _) hs2 (by omega) ?_;intro v1 W1 hS1 hb1 hg1 hat1;obtain ⟨B1,b1,rfl⟩:=Kd.S_slice hS1)
   replace H:Rd _ W1 _ _ _:=⟨(hb1.block _ (Nat.lt_succ_self _)).trans H.x,H.b.trans (below_weak hb1 (Nat.le_succ _))⟩
   rw [List.length_append] at hS1
   go_ret
   exact ⟨_,rfl,by rw [hT];exact Kd.S_lower hS1 (Nat.le_succ _),H.b⟩
theorem rvt_calls {m:S28} (h3:m.f0=3) (hl:m.f7.length≤1000) {A:Option Addr} {c:Nat} {w:World} (hm:Kd.C Kd.string w A m.f7.length m.f7) (lm:m.f7.length≤c) :
  Calls Tryz.prog 83 #[.agg (mg m A c)] w fun e w'=>∃ v3,e=.returned (.tuple #[.agg #[.int .i64 m.f1,.int .i64 m.f4,.int .i64 m.f5,v3],.bool true])∧Kd.R Kd.string 9 w' w.heap.size (fun _=>True) v3 m.f7∧Below w.heap.size w w':=by
 have hu63:=Tryz.underlying63
 have hu28:=Tryz.underlying28
 have hu22:=Tryz.underlying22
 have h0:(m.f0 != 3)=false:=by rw [h3];rfl
 clear h3
 dsimp only [mg]
 go_enter Tryz.func83,Tryz.ntmps83
 go_upto_region 1 with (fail)
 refine rd2 fun V H hz=>?_
 obtain ⟨q0,q1,q2,q3,q4,q5,q6,q7⟩:=cells8 H.x
 go_wp2_with (fail)
 clear q0 q1 q2 q3 q4 q5 q6 q7
 have hlt:=blk_lt hz
 replace H:=H.drew
 obtain ⟨q0,q1,q2,q3,q4,q5,q6,q7⟩:=cells8 H.x
 have k0:=And.intro q1 (And.intro q4 (And.intro q5 q7))
 clear q0 q1 q2 q3 q4 q5 q6 q7
 have hne:w.heap.size≠w.heap.size+1:=by omega
 go_region_held3 (fun W=>W.cell? ⟨w.heap.size,1,none⟩=some (.int .i64 m.f1)∧W.cell? ⟨w.heap.size,4,none⟩=some (.int .i64 m.f4)∧W.cell? ⟨w.heap.size,5,none⟩=some (.int .i64 m.f5)∧W.cell? ⟨w.heap.size,7,none⟩=some (.slice A m.f7.length c))
  (with_reducible first | exact k0 | exact k8 | exact kF _ _ _ _)
  (first | (refine x_step_call rfl Tryz.func24 (by kernel_rfl) rfl #[.slice A m.f7.length c] rfl (by simp [Act.eval,Act.put]) ?_;refine (sextonref01_Own.calls A c m.f7 m.f7 _ (Kd.C_below hm H.b) lm (SpecT.ownTexts_of m.f7 (by omega))).mono ?_;rintro e w1 ⟨v3,rfl,hr,hb⟩;obtain ⟨D3,k3,rfl⟩:=Kd.R_slice hr;have hz1:=(hb.block _ hlt).trans hz;replace H:=H.call hb;obtain ⟨z0,z1,z2,z3⟩:=cells4 hz1;have fz:=fr_of hz1;obtain ⟨q0,q1,q2,q3,q4,q5,q6,q7⟩:=cells8 H.x;have k8:=And.intro q1 (And.intro q4 (And.intro q5 q7));have kF:=fun a0 a1 a2 a3=>(fun h=>And.intro (cells8 h).2.1 (And.intro (cells8 h).2.2.2.2.1 (And.intro (cells8 h).2.2.2.2.2.1 (cells8 h).2.2.2.2.2.2.2))) (far4 H.x hne a0 a1 a2 a3);clear q0 q1 q2 q3 q4 q5 q6 q7;refine ⟨_,rfl,?_⟩))
 all_goals
  go_wp2
  refine bodyPost_ret (results_ct rfl _ _ _ 63 _ (0,0) _ rfl (putr4 hz1 _ _ _ _) Tryz.underlying63 rfl (by kernel_rfl)) rfl ⟨_,rfl,?_,below4 H.b (Nat.le_succ _) _ _ _ _⟩
  replace hr:=Kd.R_bound hr
  refine Kd.R_mono (Kd.R_lower (Kd.R_step hr ?_) (show w.heap.size≤V.heap.size by omega)) (fun _ _=>trivial)
  intro k hk hl
  exact keep4 k (by have:V.heap.size≤k:=hk.2.1;omega) ..
section
attribute [local go_sem] max2_mx min2_mn max_two min_two max_three min_three max_four min_four
theorem rcast_calls (x y:Nod) (m:S28) (hg:Good x) (ht:x.told=[]) (hv:0≤m.f3) (h30:m.f0=3) (h10:0≤m.f1∧m.f1≤1000) (hvl:x.votes.length≤900) (hl:m.f7.length≤1000) (Q:Nat→Prop) (v6 v7 v8:Value) (w0 w:World) (hB:Below w0.heap.size w0 w) (h:Own3 w w0.heap.size Q x v6 v7 v8) (A:Option Addr) (c:Nat) (hc:m.f7.length≤c) (hM:∀ W:World,w.heap.size≤W.heap.size→(∀ k,k < w.heap.size→¬ Q k→W.heap[k]?=w.heap[k]?)→Kd.C Kd.string W A m.f7.length m.f7) (hy:y=x.vote m) :
  Calls Tryz.prog 51 #[ag x v6 v7 v8,.agg (mg m A c)] w (RM w0 w Q y):=by
 have hu26:=Tryz.underlying26
 have hu28:=Tryz.underlying28
 have hu22:=Tryz.underlying22
 have hu23:=Tryz.underlying23
 have hu24:=Tryz.underlying24
 have hu31:=Tryz.underlying31
 have hu63:=Tryz.underlying63
 obtain ⟨A6,c6,A7,c7,A8,c8,rfl,rfl,rfl,-⟩:=h.reads
 have H:=fr3 hB h m A c
 replace hy:=Aside0.mk hy
 replace h30:=Aside0.mk h30
 dsimp only [ag,row9,mg,zer9] at H ⊢
 clear h hB
 go_enter Tryz.func51,Tryz.ntmps51
 go_upto_region 1 with (fail)
 refine H.gen ?_;clear H;intro V H
 obtain ⟨p0,p1,p2,p3,p4,p5,p6,p7,p8,fx⟩:=H.xs
 obtain ⟨q0,q1,q2,q3,q4,q5,q6,q7⟩:=cells8 H.m
 go_wp2_with (fail)
 clear p0 p1 p2 p3 p4 p5 p6 p7 p8 fx q0 q1 q2 q3 q4 q5 q6 q7
 go_at_call 40
 refine (rprimary_calls x m.f3 A6 A7 A8 _ _ _ c6 c7 c8 V hv hg.n1).mono ?_
 rintro e w1 ⟨rfl,hb⟩
 replace H:=H.call hb
 clear hb
 cases hp:x.prim m.f3
 ·obtain ⟨p0,p1,p2,p3,p4,p5,p6,p7,p8,fx⟩:=H.xs
  obtain ⟨z0,z1,z2,z3,z4,z5,z6,z7,z8,fz⟩:=H.zs
  go_wp2_with (fail)
  rw [hy.out,show x.vote m=x from by unfold Nod.vote;rw [if_neg (by rw [hp];decide)]]
  exact H.done (by rw [ht];exact row9_nil) rfl rfl rfl rfl rfl
 ·go_upto_if 14 with (fail)
  go_step
  go_step
  go_step
  go_step
  go_step
  obtain ⟨x1,hx1⟩:∃ x1,x1=if m.f3 > x.view then x.joins m.f3 else x:=⟨_,rfl⟩
  go_cut [] (fun wx=>H.to x1 wx)
  case first =>
   obtain ⟨p0,p1,p2,p3,p4,p5,p6,p7,p8,fx⟩:=H.xs
   obtain ⟨q0,q1,q2,q3,q4,q5,q6,q7⟩:=cells8 H.m
   rcases Bool.eq_false_or_eq_true (decide (x.view < m.f3)) with g | g
   ·go_wp2_with (fail)
    clear p0 p1 p2 p3 p4 p5 p6 p7 p8 fx q0 q1 q2 q3 q4 q5 q6 q7
    go_at_call 39
    refine (rjoin_calls x m.f3 hg.n1 hg.n2 hg.log (Qn Q w (w.heap.size+1+1+1)) _ _ _ w0 _ H.b H.o).mono ?_
    rintro e w2 ⟨u6,u7,u8,rfl,hO,hb,hs,hk⟩
    have h:=H.callK hO hb hs hk
    obtain ⟨E6,j6,E7,j7,E8,j8,rfl,rfl,rfl⟩:=h.slices
    obtain ⟨p0,p1,p2,p3,p4,p5,p6,p7,p8,fx⟩:=h.xs
    go_wp2
    go_meet
    rw [hx1,if_pos (of_decide_eq_true g)]
    exact ⟨_,_,_,h.put9 ..⟩
   ·go_wp2
    go_meet
    rw [hx1,if_neg (of_decide_eq_false g)]
    exact ⟨_,_,_,H⟩
  obtain ⟨u6,u7,u8,H⟩:=hcut
  obtain ⟨B6,d6,B7,d7,B8,d8,rfl,rfl,rfl⟩:=H.slices
  have hy1:y=if x1.works=true then x1.say (x1.prep m.f1) else x1.votedFor m:=by
   rw [hy.out,hx1];unfold Nod.vote;rw [if_pos hp]
   split
   ·exact (if_neg (show ¬ (false=true) by decide)).symm
   ·rfl
  have hg1:Good x1:=by
   rw [hx1];split
   ·exact joins_good hg m.f3 hv
   ·exact hg
  have ht1:x1.told=[]:=by rw [hx1];split<;>exact ht
  have hvl1:x1.votes.length≤900:=by
   rw [hx1];split
   ·show 1≤900;omega
   ·exact hvl
  clear hx1 hy hg ht hvl
  replace hy:=Aside0.mk hy1
  replace ht1:=Aside0.mk ht1
  clear hy1
  obtain ⟨p0,p1,p2,p3,p4,p5,p6,p7,p8,fx⟩:=H.xs
  obtain ⟨q0,q1,q2,q3,q4,q5,q6,q7⟩:=cells8 H.m
  rcases Bool.eq_false_or_eq_true x1.works with hw | hw
  ·go_wp2_with (fail)
   replace hy:=Aside0.mk (hy.out.trans (if_pos hw))
   clear p0 p1 p2 p3 p4 p5 p6 p7 p8 fx q0 q1 q2 q3 q4 q5 q6 q7 hw
   have h:=H.drew
   clear H
   have hne:w.heap.size+1≠w.heap.size+1+1:=by omega
   go_region_held3 (fun W=>W.cell? ⟨w.heap.size+1,1,none⟩=some (.int .i64 m.f1)∧C9 w.heap.size x1 (.slice B6 x1.log.length d6) (.slice B7 x1.acks.length d7) (.slice B8 x1.votes.length d8) W)
    (with_reducible first | exact ⟨(cells8 h.m).2.1,cells9 h.x⟩ | exact ⟨(cells8 (h.al _).m).2.1,cells9 (h.al _).x⟩ | exact ⟨(cells8 (h.pz hne).m).2.1,cells9 (h.pz hne).x⟩ | exact ⟨(cells8 ((h.al _).pz hne).m).2.1,cells9 ((h.al _).pz hne).x⟩ | exact ⟨(cells8 ((h.pz hne).al _).m).2.1,cells9 ((h.pz hne).al _).x⟩)
    (first | (refine x_step_call rfl Tryz.func72 (by kernel_rfl) rfl #[.int .i64 x1.id,.int .i64 m.f1,.int .i64 x1.view,.int .i64 x1.commit,.slice B6 x1.log.length d6] rfl (by simp [Act.eval,Act.put]) ?_;refine (sextonref23_Prepare.calls _ _ _ _ B6 d6 x1.log _ _ _ _ _ _ _ _ _ (sl6 h.o).1 (sl6 h.o).2 (rprepare_f _ _ _ _ _ hg1.log)).mono ?_;rintro e w8 ⟨v7,rfl,hr8,hb⟩;have hs:=h.s;replace h:=h.call hb;obtain ⟨z0,z1,z2,z3,z4,z5,z6,z7,z8,fz⟩:=h.zs;have za:=fun o=>(h.al o).zs;refine ⟨_,rfl,?_⟩))
   ·go_wp2
    rw [hy.out]
    exact (h.node (y1:=x1.say (x1.prep m.f1)) rfl rfl rfl).sayd (m:=x1.prep m.f1) (said_a h.z ..) (by show x1.told++_=_;rw [ht1.out];rfl) hr8 hs rfl rfl rfl rfl rfl
   ·go_wp2
    rw [hy.out]
    exact (h.node (y1:=x1.say (x1.prep m.f1)) rfl rfl rfl).sayd (m:=x1.prep m.f1) (said_b h.z ..) (by show x1.told++_=_;rw [ht1.out];rfl) hr8 hs rfl rfl rfl rfl rfl
  ·go_wp2_with (fail)
   replace hy:=Aside0.mk (show y=Nod.begin_ { x1 with votes:=addTo x1.votes (voteOf m) } from hy.out.trans (if_neg (by rw [hw];decide)))
   clear p0 p1 p2 p3 p4 p5 p6 p7 p8 fx q0 q1 q2 q3 q4 q5 q6 q7 hw
   go_at_call 83
   refine (rvt_calls h30.out hl (H.kept hM) hc).mono ?_
   rintro e w3 ⟨v3,rfl,hr3,hb⟩
   obtain ⟨B3,d3,rfl⟩:=Kd.R_slice hr3
   replace H:=H.call hb
   go_upto_region 8 with (fail)
   refine H.boxk hr3 ?_
   clear H hr3 hb
   intro V2 H hx hr
   obtain ⟨q0,q1,q2,q3⟩:=cells4 hx
   obtain ⟨p0,p1,p2,p3,p4,p5,p6,p7,p8,fx⟩:=H.xs
   go_wp2_with (fail)
   clear p0 p1 p2 p3 p4 p5 p6 p7 p8 fx q0 q1 q2 q3 hx
   go_at_call 84
   refine (radd_calls (l:=x1.votes) (v:=voteOf m) hg1.votes (fun v hv=>(hg1.each v hv).2.2) hl (sl8 H.o).1 (Kd.R_reads' hr).2.2 (Kd.R_reads' hr).2.1).mono ?_
   clear hr
   rintro e w5 ⟨v8,rfl,hS,hb⟩
   obtain ⟨D8,k8,rfl⟩:=Kd.S_slice hS
   have hs:=H.s
   replace H:=(H.call hb).own (H.o.with_votes hb hS (fun k hk=>.inr (Nat.le_trans hs hk)))
   clear hb hS hs
   obtain ⟨p0,p1,p2,p3,p4,p5,p6,p7,p8,fx⟩:=H.xs
   go_upto_region 9 with (fail)
   refine H.put1k rfl ?_
   clear H p0 p1 p2 p3 p4 p5 p6 p7 p8 fx
   intro V H
   have hg2:=add_good hg1 (voteOf m) hvl1 ⟨h10.1,h10.2,hl⟩
   replace H:=H.node (y1:={ x1 with votes:=addTo x1.votes (voteOf m) }) rfl rfl rfl
   obtain ⟨p0,p1,p2,p3,p4,p5,p6,p7,p8,fx⟩:=H.xs
   go_wp2_with (fail)
   clear p0 p1 p2 p3 p4 p5 p6 p7 p8 fx
   go_at_call 43
   refine (rbegin_new _ _ hg2 ht1.out (Qn Q w (w.heap.size+1+1+1)) _ _ _ w0 V H.b H.o hy.out).mono ?_
   rintro e w6 ⟨u6,u7,u8,u9,rfl,hO,h9,hb,hs,hk⟩
   have h9:=H.row9 h9
   replace H:=H.callK hO hb hs hk
   clear hO hb hs hk hy hg2
   obtain ⟨E6,j6,E7,j7,E8,j8,rfl,rfl,rfl⟩:=H.slices
   obtain ⟨D9,k9,rfl,-⟩:=id h9
   go_upto_region 10 with (fail)
   refine H.boxy h9 ?_
   clear H h9
   intro V H h9 hx
   obtain ⟨p0,p1,p2,p3,p4,p5,p6,p7,p8⟩:=cells9 hx
   obtain ⟨z0,z1,z2,z3,z4,z5,z6,z7,z8,fz⟩:=H.zs
   go_wp2_with (fail)
   exact H.done h9 rfl rfl rfl rfl rfl
end
end Go.Proofs.YtfpfpckocemmdaaGreat.P
