/- Part 49 of the walk. -/
import Derived.Test.YtfpfpckocemmdaaGreatCDoes48
set_option linter.unusedVariables false
set_option linter.unusedSimpArgs false
set_option maxHeartbeats 8000000
set_option maxRecDepth 100000
namespace Go.Proofs.YtfpfpckocemmdaaGreat.P
open Go.RowKit Go.Proofs.YtfpfpckocemmdaaGreatW.PrintWords Go.Proofs.YtfpfpckocemmdaaGreatW.PrintLast Go.Proofs.YtfpfpckocemmdaaGreatW.PrintMore
structure Nice (y:Nod):Prop where
 few:Few y
 fits:Fits y
 told:y.told.length≤1000
 each:∀ m,m∈y.told→m.f7.length≤1000
theorem Good.nice {y:Nod} (h:Good y) (he:∀ m,m∈y.told→m.f7.length≤1000):Nice y :=
 ⟨⟨h.log,by rw [h.acks];have:=h.n2;omega,h.votes,fun v hv=>(h.each v hv).2.2⟩,⟨by have:=h.log;omega,by rw [h.acks];have:=h.n2;omega,by have:=h.votes;omega,fun v hv=>⟨by have:=(h.each v hv).2.2;omega,wf_of (h.each v hv).1 (h.each v hv).2.1⟩⟩,h.told,he⟩
theorem nice_zero:Nice zeroNod:=⟨⟨by decide,by decide,by decide,fun v hv=>by cases hv⟩,fits_zero,by decide,fun m hm=>by cases hm⟩
theorem tell_each {y:Nod} (h:Good y) (ht:y.told=[]):∀ m,m∈y.tell.told→m.f7.length≤1000:=by
 intro m hm
 have hm2:m∈y.told++y.upto y.n.toNat:=hm
 rw [ht,List.nil_append] at hm2
 unfold Nod.upto at hm2
 obtain ⟨j,-,rfl⟩:=List.mem_map.1 hm2
 exact h.log
theorem nil_each {y:Nod} (ht:y.told=[]):∀ m,m∈y.told→m.f7.length≤1000:=fun m hm=>by rw [ht] at hm;cases hm
theorem say_each {y:Nod} (ht:y.told=[]) {m:S28} (hm:m.f7.length≤1000):∀ k,k∈(y.say m).told→k.f7.length≤1000:=by
 intro k hk
 have hk2:k∈y.told++[m]:=hk
 rw [ht,List.nil_append] at hk2
 rw [List.mem_singleton.1 hk2];exact hm
theorem say_nice {y:Nod} (h:Good y) (ht:y.told=[]) {m:S28} (hm:m.f7.length≤1000):Nice (y.say m):=by
 have h1:=h.nice (nil_each ht)
 exact ⟨⟨h1.few.log,h1.few.acks,h1.few.votes,h1.few.each⟩,⟨h1.fits.log,h1.fits.acks,h1.fits.votes,h1.fits.each⟩,by show (y.told++[m]).length≤1000;rw [ht];simp,say_each ht hm⟩
theorem tell_nice {y:Nod} (h:Good y) (ht:y.told=[]) (hn:y.n≤7):Nice y.tell:=(tell_good h (by rw [ht];simp;omega)).nice (tell_each h ht)
theorem counts_told1 (y:Nod):y.counts.told=y.told:=(counts_told y).1
theorem begin_nice {y:Nod} (h:Good y) (ht:y.told=[]) (hn:y.n≤7):Nice y.begin_:=by
 unfold Nod.begin_
 split
 ·rename_i hm
  have hmay:(!y.works && y.prim y.view && enoughOf y.votes y.n)=true:=hm
  simp only [Bool.and_eq_true] at hmay
  have hne:=enough_ne _ _ h.n1 hmay.2
  have hg:=counts_good (rise_clear_good h hne)
  refine tell_nice hg (by rw [counts_told1];exact ht) (by rw [(counts_same _).2.1];exact hn)
 ·exact h.nice (nil_each ht)
theorem ask_nice (x:Nod) (s:ByteArray):Nice (askOf x s).1:=by
 unfold askOf
 split
 ·rename_i hI
  have hR:=right_of hI
  split
  ·split
   ·exact nice_zero
   ·have hG:=hR.good
    have hl:=(loggedB_len hR.log).1
    have hg:=counts_good (logs_good hG s (by rw [hR.opened];show x.log.length≤900;omega))
    exact tell_nice hg (by rw [counts_told1,hR.opened];rfl) (by rw [(counts_same _).2.1,hR.opened];exact hR.n7.2)
  ·exact nice_zero
 ·exact nice_zero
theorem timeout_nice (x:Nod):Nice (timeoutOf x).1:=by
 unfold timeoutOf
 split
 ·rename_i hI
  have hR:=right_of hI
  split
  ·exact nice_zero
  ·have hG:=hR.good
   have hv:=hR.view0
   rw [hR.opened] at hG
   have hJ:=joins_good hG (x.view+1) (by omega)
   show Nice (lateOf x)
   cases hp:(({ x with told:=[] } : Nod).joins (x.view+1)).prim (x.view+1) with
   | true=>rw [late_begin hR hp];exact begin_nice hJ rfl hR.n7.2
   | false=>rw [late_cast hR hp];exact say_nice hJ rfl hJ.log
 ·exact nice_zero
theorem settle_good {z:Nod} (h:Good z) (m:S28):Good (z.settle m):=⟨h.n1,h.n2,h.id0,h.id1,h.view,h.log,h.acks,h.votes,h.each,h.told⟩
theorem takes_good {x:Nod} (h:Good x) (m:S28) (hv:0≤m.f3) (hl:m.f7.length≤1000):Good (x.takes m):=by
 unfold Nod.takes
 split
 ·exact clear_good ⟨h.n1,h.n2,h.id0,h.id1,hv,hl,h.acks,h.votes,h.each,h.told⟩
 ·split
  ·exact ⟨h.n1,h.n2,h.id0,h.id1,h.view,hl,h.acks,h.votes,h.each,h.told⟩
  ·exact h
theorem takes_told (x:Nod) (m:S28):(x.takes m).told=x.told:=by
 unfold Nod.takes
 split
 ·rfl
 ·split<;>rfl
theorem prepare_nice {x:Nod} (h:Good x) (ht:x.told=[]) (m:S28) (hv:0≤m.f3) (hl:m.f7.length≤1000):Nice (x.prepare m):=by
 unfold Nod.prepare
 split
 ·exact say_nice (settle_good (takes_good h m hv hl) m) (by show (x.takes m).told=[];rw [takes_told,ht]) (by show ([]:List ByteArray).length≤1000;simp)
 ·exact h.nice (nil_each ht)
theorem ack_nice {x:Nod} (h:Good x) (ht:x.told=[]) (hn:x.n≤7) (m:S28):Nice (x.ack m):=by
 have hg:=counts_good (acked_good h m)
 have hto:(x.acked m).counts.told=[]:=by rw [counts_told1];exact ht
 unfold Nod.ack
 split
 ·split
  ·exact tell_nice hg hto (by rw [(counts_same _).2.1];exact hn)
  ·exact hg.nice (nil_each hto)
 ·exact h.nice (nil_each ht)
theorem vote_nice {x:Nod} (h:Good x) (ht:x.told=[]) (hn:x.n≤7) (hvl:x.votes.length≤900) (m:S28) (hv:0≤m.f3) (h10:0≤m.f1∧m.f1≤1000) (hl:m.f7.length≤1000):Nice (x.vote m):=by
 unfold Nod.vote
 split
 ·split
  ·exact begin_nice (add_good (joins_good h m.f3 hv) (voteOf m) (by simp [Nod.joins,Nod.join]) ⟨h10.1,h10.2,hl⟩) ht hn
  ·split
   ·exact say_nice h ht h.log
   ·exact begin_nice (add_good h (voteOf m) hvl ⟨h10.1,h10.2,hl⟩) ht hn
 ·exact h.nice (nil_each ht)
theorem handle_nice (x:Nod) (m:S28) (hl:m.f7.length≤1000):Nice (handleOf x m).1:=by
 unfold handleOf
 split
 ·rename_i hc
  have hR:=right_of hc.1
  have hm:=ok_msg hc.2
  have hrg:=msgB_rng hm.1
  have hG:=hR.good
  rw [hR.opened] at hG
  show Nice (stepOf x m)
  unfold stepOf
  rw [hR.opened]
  split
  ·split
   ·exact prepare_nice hG rfl m hrg.2.1 hl
   ·split
    ·exact ack_nice hG rfl hR.n7.2 m
    ·exact vote_nice hG rfl hR.n7.2 (by have:=hR.count;have:=hR.n7;show x.votes.length≤900;omega) m hrg.2.1 ⟨hrg.1.1,by omega⟩ hl
  ·exact hG.nice (nil_each rfl)
 ·exact nice_zero
theorem restart_nice (x:Nod):Nice (restartOf x).1:=by
 unfold restartOf
 split
 ·rename_i hI
  have hR:=right_of hI
  have hG:=hR.good
  rw [hR.opened] at hG
  show Nice (x.opened.restart)
  rw [hR.opened]
  have hC:=counts_good (clear_good hG)
  unfold Nod.restart
  split
  ·exact hC.nice (nil_each (by rw [counts_told1];rfl))
  ·have hA:=add_good (y:={ ({ x with told:=[] } : Nod).clear.counts with votes:=[] }) ⟨hC.n1,hC.n2,hC.id0,hC.id1,hC.view,hC.log,hC.acks,by simp,(fun v hv=>by cases hv),hC.told⟩ ({ x with told:=[] } : Nod).clear.counts.ownVote (by simp) ⟨hC.id0,by have:=hC.id1;have:=hC.n2;show ({ x with told:=[] } : Nod).clear.counts.id≤1000;omega,hC.log⟩
   exact hA.nice (nil_each (by show ({ x with told:=[] } : Nod).clear.counts.told=[];rw [counts_told1];rfl))
 ·exact nice_zero
theorem Stays.row {α:Type} {d:Kd α} {e base:Nat} {ok:Nat→Prop} {W:World} {v:Value} {xs:List α} (h:Kd.R d e W base ok v xs):Stays W (fun W'=>Kd.R d e W' base ok v xs):=fun W' hm=>Kd.R_step h (fun k _ hk=>hm k hk)
theorem Stays.rows {α:Type} {d:Kd α} {e base:Nat} {ok:Nat→Prop} {W:World} {v:Value} {xs:List α} (h:Kd.S d e W base ok v xs):Stays W (fun W'=>Kd.S d e W' base ok v xs):=fun W' hm=>Kd.S_step h (fun k _ hk=>hm k hk)
def SmZ (N:Nat) (W:World) (ad:Addr) (f:Nat→Nat) (n:Nat):Prop:=∀ i:Nat,i < n→∃ (A:Option Addr) (c:Nat) (r:List ByteArray),W.cell? ⟨(ad.add (i * 8)).block,(ad.add (i * 8)).off+7,none⟩=some (.slice A r.length c)∧r.length≤1000∧Kd.R Kd.string 9 W N (fun k=>k≠ad.block∧f k=i) (.slice A r.length c) r∧ad.block < W.heap.size
theorem add_block (ad:Addr) (m:Nat):(ad.add m).block=ad.block:=by unfold Addr.add;split<;>rfl
theorem SmZ.smudged {N:Nat} {W W1:World} {ad:Addr} {f:Nat→Nat} {n:Nat} (h:SmZ N W ad f n) {i:Nat} (hi:i < n) {A:Option Addr} {c:Nat} {r r1:List ByteArray} (hc:W.cell? ⟨(ad.add (i * 8)).block,(ad.add (i * 8)).off+7,none⟩=some (.slice A r.length c)) (hl:r.length≤1000) (hr:Kd.R Kd.string 9 W N (fun k=>k≠ad.block∧f k=i) (.slice A r.length c) r)
  (h1:Kd.R Kd.string 9 W1 N (fun k=>(k≠ad.block∧f k=i)∨W.heap.size≤k) (.slice A r.length c) r1) (hn:r1.length=r.length) (hk:Kept W W1 (fun k=>k≠ad.block∧f k=i)):SmZ N W1 ad f n:=by
 intro j hj
 have hcell:∀ o:Nat,ad.block < W.heap.size→W1.cell? ⟨ad.block,o,none⟩=W.cell? ⟨ad.block,o,none⟩:=fun o hlt=>World.cell?_of_block (a:=⟨ad.block,o,none⟩) (hk.2 _ hlt (fun hq=>hq.1 rfl))
 by_cases he:j=i
 ·subst he
  obtain ⟨_,_,_,_,_,_,hlt⟩:=h j hj
  refine ⟨A,c,r1,?_,by omega,?_,by have:=hk.1;omega⟩
  ·rw [add_block] at hc ⊢
   rw [hcell _ hlt,hc,hn]
  ·rw [hn]
   exact Kd.R_reok rfl h1 (fun k hk'=>hr.1 k hk')
 ·obtain ⟨A',c',r',g1,g2,g3,g4⟩:=h j hj
  refine ⟨A',c',r',?_,g2,Kd.R_step g3 (fun k hk1 hk2=>hk.2 k hk2 (fun hq=>he (hk1.2.symm.trans hq.2))),by have:=hk.1;omega⟩
  rw [add_block] at g1 ⊢
  rw [hcell _ g4,g1]
theorem SmZ.of {N:Nat} {W:World} {ok:Nat→Prop} {ad:Addr} {cap:Nat} {xs:List S28} (h:Kd.S k28 28 W N ok (.slice (some ad) xs.length cap) xs) (hl:∀ v,v∈xs→v.f7.length≤1000):∃ f,SmZ N W ad f xs.length:=by
 obtain ⟨f,hf⟩:=h
 refine ⟨f,fun i hi=>?_⟩
 obtain ⟨g,rfl⟩:=Kd.R_head hf
 obtain ⟨c,hcl,hM,hcc⟩:=Kd.R_getA hf (z28,0) (i:Int) (by omega) (by rw [show (xs.length:Nat)=xs.length from rfl];omega)
 have e:xs.zipIdx.getD i (z28,0)=(xs[i],i):=by
  rw [List.getD_eq_getElem?_getD,List.getElem?_zipIdx,List.getElem?_eq_getElem hi]
  simp
 rw [Int.toNat_natCast,e] at hM
 have hM2:k28.M W N (fun k=>(ok k∧some k≠(Value.slice (some ⟨g,0,none⟩) xs.length cap).ownBlock)∧f k=i) xs[i] c:=hM
 obtain ⟨v3,rfl,hR⟩:=k28_openM hM2
 obtain ⟨A,c3,rfl⟩:=Kd.R_slice hR
 refine ⟨A,c3,xs[i].f7,?_,hl _ (List.getElem_mem hi),Kd.R_mono hR (fun k hk=>⟨fun e1=>hk.1.2 (by rw [e1];simp [Value.ownBlock]),hk.2⟩),Kd.R_lt hf g (by simp [Value.ownBlock])⟩
 have h3:=hcc 7 _ rfl
 rw [Int.toNat_natCast] at h3
 have h4:W.cell? ((⟨g,0,none⟩:Addr).add (i * 8+7))=some (.slice A xs[i].f7.length c3):=h3
 rw [add_field _ _ 7 (by omega)] at h4
 exact h4
theorem SmZ.ex {N:Nat} {W:World} {ok:Nat→Prop} {A:Option Addr} {cap:Nat} {xs:List S28} (h:Kd.S k28 28 W N ok (.slice A xs.length cap) xs) (hl:∀ v,v∈xs→v.f7.length≤1000):∃ ad f,(0 < xs.length→A=some ad)∧SmZ N W ad f xs.length:=by
 by_cases h0:0 < xs.length
 ·obtain ⟨g,c,he,_⟩:=Kd.S_form h h0
  injection he with ha _ _
  subst ha
  obtain ⟨f,hf⟩:=SmZ.of h hl
  exact ⟨_,f,fun _=>rfl,hf⟩
 ·exact ⟨⟨0,0,none⟩,fun _=>0,fun hq=>absurd hq h0,fun i hi=>absurd hi (by omega)⟩
theorem Back.owns {w w':World} {r:Nod×Int} {e:Ending} (h:Back w r e w') (hf:Fits r.1):∃ D6 d6 D7 d7 D8 d8 D9 d9,e=.returned (.tuple #[.agg #[.int .i64 r.1.id,.int .i64 r.1.n,.int .i64 r.1.view,.int .i64 r.1.last,.bool r.1.works,.int .i64 r.1.commit,.slice D6 r.1.log.length d6,.slice D7 r.1.acks.length d7,.slice D8 r.1.votes.length d8],.slice D9 r.1.told.length d9,.int .i64 r.2])∧r.1.told.length≤d9∧Stays w' (fun W=>Arg W r.1 D6 D7 D8 d6 d7 d8∧Kd.C k28 W D9 r.1.told.length r.1.told)∧Below w.heap.size w w'∧∃ P6 P9:Nat→Prop,Kd.R Kd.string 9 w' w.heap.size P6 (.slice D6 r.1.log.length d6) r.1.log∧Kd.S k28 28 w' w.heap.size P9 (.slice D9 r.1.told.length d9) r.1.told∧∀ k,P6 k→¬ P9 k:=by
 obtain ⟨v6,v7,v8,v9,rfl,hres,hb⟩:=h
 obtain ⟨D6,d6,D7,d7,D8,d8,D9,d9,rfl,rfl,rfl,rfl,h9,hK⟩:=hres.arg2 hf.log hf.acks hf.votes hf.each
 obtain ⟨P6,P7,P8,P9,g6,g7,g8,g9,a6,a7,a8⟩:=hres
 exact ⟨D6,d6,D7,d7,D8,d8,D9,d9,rfl,h9,Stays.of hK,hb,P6,P9,g6,g9,fun k hk=>(a6 k hk).2.2⟩
theorem ask_owns {x y:Nod} {s:ByteArray} {e:Int} (h:askOf x s=(y,e)) (hf:Fits y) {A6 A7 A8:Option Addr} {c6 c7 c8:Nat} {w:World} (ha:Arg w x A6 A7 A8 c6 c7 c8) :
  Calls Tryz.prog 6 #[.agg #[.int .i64 x.id,.int .i64 x.n,.int .i64 x.view,.int .i64 x.last,.bool x.works,.int .i64 x.commit,.slice A6 x.log.length c6,.slice A7 x.acks.length c7,.slice A8 x.votes.length c8],.string s] w fun e' w'=>∃ D6 d6 D7 d7 D8 d8 D9 d9,e'=.returned (.tuple #[.agg #[.int .i64 y.id,.int .i64 y.n,.int .i64 y.view,.int .i64 y.last,.bool y.works,.int .i64 y.commit,.slice D6 y.log.length d6,.slice D7 y.acks.length d7,.slice D8 y.votes.length d8],.slice D9 y.told.length d9,.int .i64 e])∧y.told.length≤d9∧Stays w' (fun W=>Arg W y D6 D7 D8 d6 d7 d8∧Kd.C k28 W D9 y.told.length y.told)∧Below w.heap.size w w'∧∃ P6 P9:Nat→Prop,Kd.R Kd.string 9 w' w.heap.size P6 (.slice D6 y.log.length d6) y.log∧Kd.S k28 28 w' w.heap.size P9 (.slice D9 y.told.length d9) y.told∧∀ k,P6 k→¬ P9 k:=by
 refine (ask_calls x s A6 A7 A8 c6 c7 c8 w ha).mono fun e' w' hb=>?_
 rw [h] at hb
 exact hb.owns hf
theorem handle_owns {x y:Nod} {m:S28} {e:Int} (h:handleOf x m=(y,e)) (hf:Fits y) {A:Option Addr} {c:Nat} {A6 A7 A8:Option Addr} {c6 c7 c8:Nat} {w:World} (ha:Arg w x A6 A7 A8 c6 c7 c8) (hm:Kd.C Kd.string w A m.f7.length m.f7) (lm:m.f7.length≤c) :
  Calls Tryz.prog 10 #[.agg #[.int .i64 x.id,.int .i64 x.n,.int .i64 x.view,.int .i64 x.last,.bool x.works,.int .i64 x.commit,.slice A6 x.log.length c6,.slice A7 x.acks.length c7,.slice A8 x.votes.length c8],.agg #[.int .i64 m.f0,.int .i64 m.f1,.int .i64 m.f2,.int .i64 m.f3,.int .i64 m.f4,.int .i64 m.f5,.int .i64 m.f6,.slice A m.f7.length c]] w fun e' w'=>∃ D6 d6 D7 d7 D8 d8 D9 d9,e'=.returned (.tuple #[.agg #[.int .i64 y.id,.int .i64 y.n,.int .i64 y.view,.int .i64 y.last,.bool y.works,.int .i64 y.commit,.slice D6 y.log.length d6,.slice D7 y.acks.length d7,.slice D8 y.votes.length d8],.slice D9 y.told.length d9,.int .i64 e])∧y.told.length≤d9∧Stays w' (fun W=>Arg W y D6 D7 D8 d6 d7 d8∧Kd.C k28 W D9 y.told.length y.told)∧Below w.heap.size w w'∧∃ P6 P9:Nat→Prop,Kd.R Kd.string 9 w' w.heap.size P6 (.slice D6 y.log.length d6) y.log∧Kd.S k28 28 w' w.heap.size P9 (.slice D9 y.told.length d9) y.told∧∀ k,P6 k→¬ P9 k:=by
 refine (handle_calls x m A6 A7 A8 A c6 c7 c8 c w ha hm lm).mono fun e' w' hb=>?_
 rw [h] at hb
 exact hb.owns hf
theorem rown_stays {x:Nod} (hf:Few x) {A6 A7 A8:Option Addr} {c6 c7 c8:Nat} {w:World} (ha:Arg w x A6 A7 A8 c6 c7 c8) :
  Calls Tryz.prog 5 #[.agg #[.int .i64 x.id,.int .i64 x.n,.int .i64 x.view,.int .i64 x.last,.bool x.works,.int .i64 x.commit,.slice A6 x.log.length c6,.slice A7 x.acks.length c7,.slice A8 x.votes.length c8]] w fun e' w'=>∃ D6 d6 D7 d7 D8 d8,e'=.returned (.agg #[.int .i64 x.id,.int .i64 x.n,.int .i64 x.view,.int .i64 x.last,.bool x.works,.int .i64 x.commit,.slice D6 x.log.length d6,.slice D7 x.acks.length d7,.slice D8 x.votes.length d8])∧Stays w' (fun W=>Arg W x D6 D7 D8 d6 d7 d8)∧Below w.heap.size w w':=by
 refine (rown_calls x A6 A7 A8 c6 c7 c8 w ha hf.log hf.acks 1001 (SpecT.own_of _ hf.votes hf.each _ (by have:=hf.votes;omega))).mono ?_
 rintro e' w' ⟨v6,v7,v8,rfl,hres,hb⟩
 obtain ⟨D6,d6,D7,d7,D8,d8,D9,d9,rfl,rfl,rfl,-,-,hK⟩:=hres.arg2 ha.hl ha.ha ha.hvl ha.hv
 refine ⟨D6,d6,D7,d7,D8,d8,rfl,Stays.of (n:=w.heap.size) (fun W hm=>?_),hb⟩
 have h:=(hK W hm).1
 exact ⟨h.h6,h.l6,h.h7,h.l7,h.h8,h.l8,h.hl,h.ha,h.hvl,h.hv⟩
theorem new_nice (id n:Int):Nice (newOf id n).1:=by
 unfold newOf
 split
 ·rename_i h
  have hn:=(sizeB_iff n).1 h.1
  exact ⟨⟨by simp,by simp;omega,by simp,fun v hv=>by cases hv⟩,⟨by simp,by simp;omega,by simp,fun v hv=>by cases hv⟩,by simp,fun m hm=>by cases hm⟩
 ·exact nice_zero
abbrev NS (f:FuncId) (id n:Int) (w:World) (y:Nod) (e:Int):Prop:=Calls Tryz.prog f #[.int .i64 id,.int .i64 n] w fun e' w'=>∃ D6 d6 D7 d7 D8 d8,e'=.returned (.tuple #[ag y (.slice D6 y.log.length d6) (.slice D7 y.acks.length d7) (.slice D8 y.votes.length d8),.int .i64 e])∧Stays w' (fun W=>Arg W y D6 D7 D8 d6 d7 d8)∧Below w.heap.size w w'
theorem nstays {f:FuncId} {id n:Int} {y:Nod} {e:Int} {w:World} (hc:Calls Tryz.prog f #[.int .i64 id,.int .i64 n] w fun e w'=>∃ A c,e=.returned (.tuple #[ag (newOf id n).1 (.slice none 0 0) (.slice A (newOf id n).1.acks.length c) (.slice none 0 0),.int .i64 (newOf id n).2])∧Kd.R (Kd.int .i64) 3 w' w.heap.size (fun _=>True) (.slice A (newOf id n).1.acks.length c) (newOf id n).1.acks∧Below w.heap.size w w') (h:newOf id n=(y,e)) (hf:Fits y) :
  NS f id n w y e:=by
 have hn:(newOf id n).1.log=[]∧(newOf id n).1.votes=[]:=by unfold newOf;split<;>exact ⟨rfl,rfl⟩
 rw [h] at hc hn
 refine hc.mono ?_
 rintro e' w' ⟨A,c,rfl,g7,hb⟩
 refine ⟨none,0,A,c,none,0,by rw [show y.log=[] from hn.1,show y.votes=[] from hn.2];rfl,fun W hm=>?_,hb⟩
 have q7:=Kd.R_reads' (Kd.R_step g7 (w1:=W) (fun k _ hl=>hm k hl))
 exact ⟨by rw [show y.log=[] from hn.1];exact (Kd.R_reads' (Kd.R_nil Kd.string 9 W 0 (fun _=>True))).2.2,by rw [show y.log=[] from hn.1];exact Nat.le_refl _,q7.2.2,q7.2.1,by rw [show y.votes=[] from hn.2];exact (Kd.S_reads' (Kd.S_nil k63 63 W 0 (fun _=>True))).2.2,by rw [show y.votes=[] from hn.2];exact Nat.le_refl _,hf.log,hf.acks,hf.votes,hf.each⟩
theorem new_stays {id n:Int} {y:Nod} {e:Int} (h:newOf id n=(y,e)) (hf:Fits y) (w:World):NS 17 id n w y e:=nstays (new17_calls id n w) h hf
theorem rnew_stays {id n:Int} {y:Nod} {e:Int} (h:newOf id n=(y,e)) (hf:Fits y) (w:World):NS 18 id n w y e:=nstays (rnew_calls id n w) h hf
theorem arg_holds {w:World} {x:Nod} {A6 A7 A8:Option Addr} {c6 c7 c8:Nat} (h:Arg w x A6 A7 A8 c6 c7 c8):Stays w (fun W=>Arg W x A6 A7 A8 c6 c7 c8):=fun W hm =>
 ⟨Kd.C_F Kd.heap_string h.h6 W (fun k hk _=>hm k hk),h.l6,Kd.C_F (Kd.heap_int .i64) h.h7 W (fun k hk _=>hm k hk),h.l7,Kd.C_F k63_heap h.h8 W (fun k hk _=>hm k hk),h.l8,h.hl,h.ha,h.hvl,h.hv⟩
theorem text_holds {w:World} {A:Option Addr} {l:List ByteArray} (h:Kd.C Kd.string w A l.length l):Stays w (fun W=>Kd.C Kd.string W A l.length l):=fun W hm=>Kd.C_F Kd.heap_string h W (fun k hk _=>hm k hk)
end Go.Proofs.YtfpfpckocemmdaaGreat.P
