/- Part 12 of the walk. -/
import Derived.Test.YtfpfpckocemmdaaGreatCDoes11
set_option linter.unusedVariables false
set_option linter.unusedSimpArgs false
set_option maxHeartbeats 8000000
set_option maxRecDepth 100000
namespace Go.Proofs.YtfpfpckocemmdaaGreat.P
open Go.RowKit Go.Proofs.YtfpfpckocemmdaaGreatW.PrintWords Go.Proofs.YtfpfpckocemmdaaGreatW.PrintLast Go.Proofs.YtfpfpckocemmdaaGreatW.PrintMore
def Nod.say (x:Nod) (m:S28):Nod:={ x with told:=x.told++[m] }
theorem Did.say_core {w0 w W:World} {base g:Nat} {ok:Nat→Prop} {x:Nod} {v0:Value} (h:Did w0 w base g ok x) (hb:Below w.heap.size w W) (hc:w.cell? ⟨g,9,none⟩=some v0) :
  ∃ P:Nat→Prop,Kd.S k28 28 W base (fun k=>P k∧¬ w.heap.size≤k) v0 x.told∧(∀ k,w.heap.size≤k→P k∧some k≠v0.ownBlock)∧base≤w.heap.size ∧
   ∀ m v1 w1,Kd.S k28 28 w1 base P v1 (x.told++[m])→W.grownBy w1 v0.ownBlock→Did w0 (w1.setCell ⟨g,9,none⟩ v1) base g ok (x.say m)∧w1.heap[g]?=w.heap[g]?:=by
 have hlt:=h.1.lt
 have hge:=h.1.ge
 have hbase:base≤w.heap.size:=by have:=h.2.2.1.size;have:=h.2.2.2.1;omega
 have hN:=h.1
 obtain ⟨v6,v7,v8,v9,P6,P7,P8,P9,hb9,hg,⟨hok,hok2⟩,h6,h7,h8,h9,ho,a6,a7,a8⟩:=h.1.bound
 have e9:v9=v0:=by
  have h1:w.cell? ⟨g,9,none⟩=some v9:=blk_cell hb9 9
  rw [h1] at hc
  exact Option.some.inj hc
 subst e9
 have hown:∀ k,v9.ownBlock=some k→P9 k:=fun k hk=>(Kd.S_R h9).1 k hk
 have hP9:∀ k,P9 k→k < w.heap.size∧k≠g:=fun k hk=>⟨(ho k (.inr (.inr (.inr hk)))).1.2.1,(ho k (.inr (.inr (.inr hk)))).2⟩
 refine ⟨fun k=>P9 k∨w.heap.size≤k,Kd.S_mono (Kd.S_below h9 hb) (fun k hk=>⟨.inl hk,by have:=(hP9 k hk).1;omega⟩),fun k hk=>⟨.inr hk,fun e=>by have:=(hP9 k (hown k e.symm)).1;omega⟩,hbase,?_⟩
 intro m v1 w1 hs hgr
 have hstay:∀ k,k < w.heap.size→¬ P9 k→w1.heap[k]?=w.heap[k]?:=fun k hk hn=>(hgr.block k (by have:=hb.size;omega) (fun e=>hn (hown k e.symm))).trans (hb.block k hk)
 have hg1:w1.heap[g]?=w.heap[g]?:=hstay g hlt (fun hp=>(hP9 g hp).2 rfl)
 have hsz:w.heap.size≤w1.heap.size:=by have:=hb.size;have:=hgr.size;omega
 have hb1:w1.heap[g]?=some (.cells (x.cells v6 v7 v8 v9) 56 (0,0)):=hg1.trans hb9
 have hko:∀ k,k < w.heap.size→(ok k∨w0.heap.size≤k)∨w.heap.size≤k→ok k∨w0.heap.size≤k:=fun k hk h=>h.elim id (fun h=>by omega)
 have hnd:Nd (w1.setCell ⟨g,9,none⟩ v1) base g (fun k=>ok k∨w0.heap.size≤k) (x.say m):=by
  have hs0:w0.heap.size≤w.heap.size:=h.2.2.1.size
  refine ⟨v6,v7,v8,v1,P6,P7,P8,fun k=>P9 k∨w.heap.size≤k,blk_put (cs':=(x.say m).cells v6 v7 v8 v1) hb1 9 _ rfl,hg,hok,?_,?_,?_,?_,?_,?_,?_,?_⟩
  ·exact Kd.R_far (Kd.R_step h6 (fun k hp hl=>hstay k hl (a6 k hp).2.2)) (fun k hp=>(ho k (.inl hp)).2) _
  ·exact Kd.R_far (Kd.R_step h7 (fun k hp hl=>hstay k hl (a7 k hp).2)) (fun k hp=>(ho k (.inr (.inl hp))).2) _
  ·exact Kd.S_far (Kd.S_step h8 (fun k hp hl=>hstay k hl (a8 k hp))) (fun k hp=>(ho k (.inr (.inr (.inl hp)))).2) _
  ·exact Kd.S_far hs (fun k hp e=>by rcases hp with hp | hp;exact (hP9 k hp).2 e;have:k=g:=e;omega) _
  ·rintro k (hk | hk | hk | hk | hk)
   ·exact ⟨(ho k (.inl hk)).1.1,(ho k (.inl hk)).2⟩
   ·exact ⟨(ho k (.inr (.inl hk))).1.1,(ho k (.inr (.inl hk))).2⟩
   ·exact ⟨(ho k (.inr (.inr (.inl hk)))).1.1,(ho k (.inr (.inr (.inl hk)))).2⟩
   ·exact ⟨(ho k (.inr (.inr (.inr hk)))).1.1,(hP9 k hk).2⟩
   ·exact ⟨.inr (by omega),by omega⟩
  ·exact fun k hk=>⟨(a6 k hk).1,(a6 k hk).2.1,fun h=>h.elim (a6 k hk).2.2 (fun h=>by have:=(ho k (.inl hk)).1.2.1;omega)⟩
  ·exact fun k hk=>⟨(a7 k hk).1,fun h=>h.elim (a7 k hk).2 (fun h=>by have:=(ho k (.inr (.inl hk))).1.2.1;omega)⟩
  ·exact fun k hk h=>h.elim (a8 k hk) (fun h=>by have:=(ho k (.inr (.inr (.inl hk)))).1.2.1;omega)
 have hown9:∀ k,P9 k→(ok k∨w0.heap.size≤k)∧base≤k:=fun k hk=>⟨(ho k (.inr (.inr (.inr hk)))).1.1,(ho k (.inr (.inr (.inr hk)))).1.2.2⟩
 have hkept:Kept w0 w1 ok:=h.2.1.then_ (S2:=fun k=>P9 k) ⟨hsz,fun k hk hn=>hstay k hk hn⟩ (fun k hk=>(hown9 k hk).1)
 have hbel:Below base w0 w1:=h.2.2.1.trans ⟨by rw [hgr.os,hb.os],by rw [hgr.tape,hb.tape],by rw [hgr.output,hb.output],hsz,fun k hk=>hstay k (by omega) (fun hp=>by have:=(hown9 k hp).2;omega)⟩
 exact ⟨⟨hnd,hkept.setCell (.inl h.2.2.2.2) _,below_at hbel hge,h.2.2.2⟩,hg1⟩
theorem say_M {w W:World} {base:Nat} {m:S28} {A:Option Addr} {c:Nat} (hbase:base≤w.heap.size) (hR:Kd.R Kd.string 9 W w.heap.size (fun _=>True) (.slice A m.f7.length c) m.f7) :
  k28.M W base (fun k=>w.heap.size≤k) m [.int .i64 m.f0,.int .i64 m.f1,.int .i64 m.f2,.int .i64 m.f3,.int .i64 m.f4,.int .i64 m.f5,.int .i64 m.f6,.slice A m.f7.length c] :=
 k28_mkM W base _ m (Kd.R_mono (Kd.R_lower (Kd.R_bound hR) hbase) (fun k hk=>hk.2.1))
theorem say_step {w0 w W:World} {base g:Nat} {ok:Nat→Prop} {x:Nod} {ops:Array Oper} {o:Oper} {a:Act} {Kc:Act→World→Prop} {Q:Exit→Act→World→Prop} (m:S28) (A9:Option Addr) (c9:Nat) (A:Option Addr) (c:Nat) (h:Did w0 w base g ok x) (hb:Below w.heap.size w W) (hc:w.cell? ⟨g,9,none⟩=some (.slice A9 x.told.length c9)) (hR:Kd.R Kd.string 9 W w.heap.size (fun _=>True) (.slice A m.f7.length c) m.f7) (hl:x.told.length≤100000)
  (hg:o.guard=none) (s y:Operand) (ho:o.op=.call { callee:=.builtin .append,args:=#[s,y],argTypes:=#[31,31] }) (hs:a.eval s=.slice A9 x.told.length c9) (hy:a.eval y=.slice (some ⟨W.heap.size,0,none⟩) 1 1)
  (hk:∀ v1 w1,Did w0 (w1.setCell ⟨g,9,none⟩ v1) base g ok (x.say m)→w1.heap[g]?=w.heap[g]?→(∃ A1 c1,v1=.slice A1 (x.say m).told.length c1)→Kc (a.put o.dst v1) w1) :
  if Region.wanted o (yielded ops a.tmps)=true then Oper.wp Tryz.prog o a (W.alloc (.cells #[m.f0,m.f1,m.f2,m.f3,m.f4,m.f5,m.f6,.slice A m.f7.length c] 28)) Kc Q else Kc (a.put o.dst undef) (W.alloc (.cells #[m.f0,m.f1,m.f2,m.f3,m.f4,m.f5,m.f6,.slice A m.f7.length c] 28)):=by
 obtain ⟨P,hS,hP,hbase,hend⟩:=h.say_core hb hc
 refine Kd.S_append_step k28 (w0:=W) base (by simp [Region.wanted,hg]) s y 31 28 (.agg #[.int .i64 0,.int .i64 0,.int .i64 0,.int .i64 0,.int .i64 0,.int .i64 0,.int .i64 0,.slice none 0 0]) 80 ho Tryz.underlying31 info28 rfl (by decide) (by omega) _ x.told m [.int .i64 m.f0,.int .i64 m.f1,.int .i64 m.f2,.int .i64 m.f3,.int .i64 m.f4,.int .i64 m.f5,.int .i64 m.f6,.slice A m.f7.length c] P (fun k=>w.heap.size≤k) hs hy (say_M hbase hR) hP (fun k hk=>(hP k (by have:=hb.size;omega)).1) hS (Below.refl _ _) (by have:=hb.size;omega) (by have:=hl;omega) ?_
 intro v1 w1 hs1 hb1 hg1 _
 obtain ⟨hd,he⟩:=hend m v1 w1 hs1 hg1
 obtain ⟨A1,c1,rfl⟩:=Kd.S_slice hs1
 exact hk _ w1 hd he ⟨A1,c1,rfl⟩
@[reducible] def ldTold (n:Nat):Op:=Op.load 31 (Operand.tmp n)
theorem ldTold_eq (n:Nat):Op.load 31 (Operand.tmp n)=ldTold n:=rfl
def Nod.prep (x:Nod) (j:Int):S28:=⟨1,x.id,j,x.view,0,x.commit,0,x.log⟩
def Nod.upto (x:Nod) (i:Nat):List S28:=((List.range i).filter (fun j:Nat=>(j:Int)≠x.id)).map (fun j:Nat=>x.prep (j:Int))
def Nod.tells (x:Nod) (i:Nat):Nod:={ x with told:=x.told++x.upto i }
def Nod.tell (x:Nod):Nod:=x.tells x.n.toNat
theorem Nod.upto_le (x:Nod) (i:Nat):(x.upto i).length≤i:=by
 unfold Nod.upto
 rw [List.length_map]
 exact Nat.le_trans (List.length_filter_le _ _) (by simp)
theorem Nod.tells_self (x:Nod) (i:Nat) (h:(i:Int)=x.id):x.tells (i+1)=x.tells i:=by
 unfold Nod.tells Nod.upto
 rw [List.range_succ,List.filter_append]
 simp [h]
theorem Nod.tells_other (x:Nod) (i:Nat) (h:(i:Int)≠x.id):x.tells (i+1)=(x.tells i).say (x.prep (i:Int)):=by
 unfold Nod.tells Nod.upto Nod.say
 rw [List.range_succ,List.filter_append]
 simp [h]
theorem prepare_of (a b c d:Int) (l:List ByteArray) (hl:l.length < 4398046511104):msg_Prepare.f a b c d l=some (1,a,b,c,0,d,0,l):=by
 unfold msg_Prepare.f slices_Clone_string_string.f
 rw [if_pos hl];rfl
theorem tell_did (x:Nod) (w0 w:World) (base g:Nat) (ok:Nat→Prop) (hn0:0≤x.n) (hn1:x.n≤1000) (ht:x.told.length≤1000) (hlog:x.log.length < 4398046511104) (h:Did w0 w base g ok x) :
  Calls Tryz.prog 30 #[.pointer (some ⟨g,0,none⟩)] w fun e w'=>e=.returned (.tuple #[])∧Did w0 w' base g ok x.tell:=by
 have hu56:=Tryz.underlying56
 have hu26:=Tryz.underlying26
 have hu28:=Tryz.underlying28
 have HN:=sd h
 have HT:=sd ht
 have HLOG:=sd hlog
 obtain ⟨n,hn⟩:=Int.eq_ofNat_of_zero_le hn0
 have HN1:=sd (show n≤1000 by omega)
 have HE:=sd (show x.tell=x.tells n by unfold Nod.tell;rw [hn];rfl)
 obtain ⟨A6,c6,A7,c7,A8,c8,A9,c9,hb,-⟩:=h.blk
 have hc1:w.cell? ⟨g,1,none⟩=some (.int .i64 x.n):=blk_cell hb 1
 rw [hn] at hc1
 clear hb h ht hlog hn0 hn1
 have HNE:=sd hn
 clear hn
 go_enter Tryz.func30,Tryz.ntmps30
 go_wp2
 go_loopg [2,8] n (fun kq v2 v8 w'=>∃ (i:Nat),v8=.int .i64 (i:Int)∧Aside0 (kq=n - i∧i≤n)∧Aside0 (Did w0 w' base g ok (x.tells i)))
 case atStart =>
  refine ⟨0,rfl,⟨by simp⟩,⟨?_⟩⟩
  have h0:x.tells 0=x:=by simp [Nod.tells,Nod.upto]
  rw [h0];exact HN.out
 case round =>
  obtain ⟨i,rfl,hi,HD⟩:=hrel
  have hwr:wrap64 ((i:Int)+1)=((i+1:Nat):Int):=by have:=HN1.out;have:=hi.out;unfold wrap64;omega
  have HW:=sd hwr
  clear hwr
  by_cases hlt:i < n
  ·have hb1:decide ((i:Int) < (n:Int))=true:=decide_eq_true (by omega)
   obtain ⟨A6,c6,A7,c7,A8,c8,A9,c9,hb,hc6,hC,-⟩:=HD.out.blk
   have HBK:=sd hb
   have HC6:=sd hc6
   have HC:=sd hC
   have hx0:wr.cell? ⟨g,0,none⟩=some (.int .i64 x.id):=blk_cell hb 0
   have hx2:wr.cell? ⟨g,2,none⟩=some (.int .i64 x.view):=blk_cell hb 2
   have hx5:wr.cell? ⟨g,5,none⟩=some (.int .i64 x.commit):=blk_cell hb 5
   have hx6:wr.cell? ⟨g,6,none⟩=some (.slice A6 x.log.length c6):=blk_cell hb 6
   have hx9:wr.cell? ⟨g,9,none⟩=some (.slice A9 (x.tells i).told.length c9):=blk_cell hb 9
   clear hb hc6 hC
   by_cases he:(i:Int)=x.id
   ·have e1:((i:Int)==x.id)=true:=beq_iff_eq.mpr he
    have e2:((i:Int) != x.id)=false:=bne_eq_false_iff_eq.mpr he
    have HE1:=sd he
    clear he
    go_wp2
    go_roundg (n - (i+1))
    case measure=>have:=hi.out.1;omega
    case rel =>
     refine ⟨i+1,by rw [HW.out],⟨by have:=hi.out;omega,by omega⟩,⟨?_⟩⟩
     rw [x.tells_self i HE1.out];exact HD.out
   ·have e1:((i:Int)==x.id)=false:=beq_eq_false_iff_ne.mpr he
    have e2:((i:Int) != x.id)=true:=bne_iff_ne.mpr he
    have HE1:=sd he
    have HP:=sd (prepare_of x.id (i:Int) x.view x.commit x.log HLOG.out)
    have HBKD:=sd (show wr.drew.heap[g]?=some _ from HBK.out)
    have HC9:=sd (show wr.drew.cell? ⟨g,9,none⟩=_ from hx9)
    have HTI:=sd (show (x.tells i).told.length≤100000 by unfold Nod.tells;rw [List.length_append];have:=x.upto_le i;have:=HT.out;have:=HN1.out;omega)
    clear he
    go_wp2
    rw [ldTold_eq 21]
    go_region_held3 (fun W=>W.cell? ⟨g,0,none⟩=some (.int .i64 x.id)∧W.cell? ⟨g,2,none⟩=some (.int .i64 x.view)∧W.cell? ⟨g,5,none⟩=some (.int .i64 x.commit)∧W.cell? ⟨g,6,none⟩=some (.slice A6 x.log.length c6))
     (first | exact ⟨hx0,hx2,hx5,hx6⟩ | exact ⟨blk_cell HBK3.out 0,blk_cell HBK3.out 2,blk_cell HBK3.out 5,blk_cell HBK3.out 6⟩ | exact ⟨blk_cell (blk_alloc HBK3.out _) 0,blk_cell (blk_alloc HBK3.out _) 2,blk_cell (blk_alloc HBK3.out _) 5,blk_cell (blk_alloc HBK3.out _) 6⟩ | exact ⟨blk_cell HBK4.out 0,blk_cell HBK4.out 2,blk_cell HBK4.out 5,blk_cell HBK4.out 6⟩ | exact ⟨blk_cell HBK5.out 0,blk_cell HBK5.out 2,blk_cell HBK5.out 5,blk_cell HBK5.out 6⟩)
     (first | (refine x_step_call rfl Tryz.func70 (by kernel_rfl) rfl #[x.id,(i:Int),x.view,x.commit,.slice A6 x.log.length c6] rfl (by simp [Act.eval,Act.put]) ?_;refine (msg_Prepare.calls x.id (i:Int) x.view x.commit A6 c6 x.log 1 x.id (i:Int) x.view 0 x.commit 0 x.log wr.drew (Kd.C_drew HC.out) HC6.out HP.out).mono ?_;rintro e w3 ⟨v7,rfl,hR,hb3⟩;have HB3:=sd hb3;obtain ⟨AR,cR,eR⟩:=Kd.R_slice hR;subst eR;have HR:=sd hR;have HBK3:=sd ((hb3.block g (show g < wr.drew.heap.size from blk_lt HBK.out)).trans HBK.out);have hs9:∀ o,(w3.alloc o).cell? ⟨g,9,none⟩=some (.slice A9 (x.tells i).told.length c9):=fun o=>blk_cell (blk_alloc HBK3.out o) 9;have hs9':w3.cell? ⟨g,9,none⟩=some (.slice A9 (x.tells i).told.length c9):=blk_cell HBK3.out 9;clear hb3 hR;refine ⟨_,rfl,?_⟩) | (refine say_step (x.prep (i:Int)) A9 c9 AR cR (HD.out.drew) HB3.out (HC9.out) HR.out HTI.out rfl (.tmp 22) (.tmp 45) rfl rfl rfl ?_;intro v1 w4 hd4 hg4 hv4;obtain ⟨A1,c1,rfl⟩:=hv4;have HD4:=sd hd4;have HBK4:=sd (hg4.trans HBKD.out);have HBK5:=sd (blk_put (cs':=(x.tells i).cells (.slice A6 (x.tells i).log.length c6) (.slice A7 (x.tells i).acks.length c7) (.slice A8 (x.tells i).votes.length c8) (.slice A1 ((x.tells i).say (x.prep (i:Int))).told.length c1)) HBK4.out 9 (.slice A1 ((x.tells i).say (x.prep (i:Int))).told.length c1) rfl);have hr9:w4.cell? ⟨g,9,none⟩=some (.slice A9 (x.tells i).told.length c9):=blk_cell HBK4.out 9;have hf9:w4.frozen? ⟨g,9,none⟩=false:=blk_frozen HBK4.out 9;clear hd4 hg4))
    all_goals
     go_wp2
     go_roundg (n - (i+1))
     case measure=>have:=hi.out.1;omega
     case rel =>
      refine ⟨i+1,by rw [HW.out],⟨by have:=hi.out;omega,by omega⟩,⟨?_⟩⟩
      rw [x.tells_other i HE1.out];exact HD4.out
  ·have hb1:decide ((i:Int) < (n:Int))=false:=decide_eq_false (by omega)
   have hie:i=n:=by have:=hi.out;omega
   subst hie
   go_wp2
   go_end0
   exact ⟨rfl,by rw [HE.out];exact HD.out⟩
theorem ack_calls (a b c n:Int) (w:World) :
  Calls Tryz.prog 79 #[a,b,c,n] w fun e w'=>e=.returned (.agg #[.int .i64 2,a,b,c,.int .i64 0,.int .i64 0,n,.slice none 0 0])∧Below w.heap.size w w':=by
 have hu28:=Tryz.underlying28
 go_enter Tryz.func79,Tryz.ntmps79
 go_wp2
 refine bodyPost_ret (results_cell_row rfl _ _ w.heap.size 28 #[.int .i64 2,a,b,c,.int .i64 0,.int .i64 0,n,.slice none 0 0] (0,0) _ rfl ?_ Tryz.underlying28 rfl (by kernel_rfl)) rfl ?_
 ·exact x_alloc_new _ _
 ·exact ⟨rfl,below_alloc (Below.refl _ _) _⟩
theorem alloc2_new (w:World) (a b:Obj):((w.alloc a).alloc b).heap[w.heap.size+1]?=some b:=by
 have h:=x_alloc_new (w.alloc a) b
 simpa using h
theorem alloc2_size (w:World) (a b:Obj):((w.alloc a).alloc b).drew.heap.size=w.heap.size+2:=by show ((w.alloc a).alloc b).heap.size=_;simp
theorem vote_calls (m:S28) (A:Option Addr) (c:Nat) (w:World) (hk:m.f0=3) (hc:m.f7.length≤c) (hC:Kd.C Kd.string w A m.f7.length m.f7) (hl:m.f7.length < 4398046511104) :
  Calls Tryz.prog 80 #[.agg #[m.f0,m.f1,m.f2,m.f3,m.f4,m.f5,m.f6,.slice A m.f7.length c]] w fun e w'=>∃ v,e=.returned (.tuple #[.agg #[m.f1,m.f4,m.f5,v],.bool true])∧Kd.R Kd.string 9 w' w.heap.size (fun _=>True) v m.f7∧Below w.heap.size w w':=by
 have hu28:=Tryz.underlying28
 have hu63:=Tryz.underlying63
 have HC:=sd hC
 have HCC:=sd hc
 have HL:=sd (show slices_Clone_string_string.f m.f7=some m.f7 from if_pos hl)
 have e1:(m.f0==(3:Int))=true:=beq_iff_eq.mpr hk
 have e2:(m.f0 != (3:Int))=false:=bne_eq_false_iff_eq.mpr hk
 clear hC hc hl
 have HK:=sd hk
 clear hk
 go_enter Tryz.func80,Tryz.ntmps80
 go_wp2
 have HBM:=sd (show ((w.alloc (.cells #[m.f0,m.f1,m.f2,m.f3,m.f4,m.f5,m.f6,.slice A m.f7.length c] 28)).alloc (.cells #[.int .i64 0,.int .i64 0,.int .i64 0,.slice none 0 0] 63)).drew.heap[w.heap.size]?=some (.cells #[m.f0,m.f1,m.f2,m.f3,m.f4,m.f5,m.f6,.slice A m.f7.length c] 28 (0,0)) from blk_alloc (x_alloc_new _ _) _)
 have HBZ:=sd (show ((w.alloc (.cells #[m.f0,m.f1,m.f2,m.f3,m.f4,m.f5,m.f6,.slice A m.f7.length c] 28)).alloc (.cells #[.int .i64 0,.int .i64 0,.int .i64 0,.slice none 0 0] 63)).drew.heap[w.heap.size+1]?=some (.cells #[.int .i64 0,.int .i64 0,.int .i64 0,.slice none 0 0] 63 (0,0)) from alloc2_new w _ _)
 go_region_held3 (fun W=>W.cell? ⟨w.heap.size,1,none⟩=some (.int .i64 m.f1)∧W.cell? ⟨w.heap.size,4,none⟩=some (.int .i64 m.f4)∧W.cell? ⟨w.heap.size,5,none⟩=some (.int .i64 m.f5)∧W.cell? ⟨w.heap.size,7,none⟩=some (.slice A m.f7.length c))
  (first | exact ⟨blk_cell HBM.out 1,blk_cell HBM.out 4,blk_cell HBM.out 5,blk_cell HBM.out 7⟩ | exact ⟨blk_cell HBM3.out 1,blk_cell HBM3.out 4,blk_cell HBM3.out 5,blk_cell HBM3.out 7⟩ | exact ⟨blk_cell (HF.out _ _ _ _) 1,blk_cell (HF.out _ _ _ _) 4,blk_cell (HF.out _ _ _ _) 5,blk_cell (HF.out _ _ _ _) 7⟩)
  ((refine x_step_call rfl Tryz.func66 (by kernel_rfl) rfl #[.slice A m.f7.length c] rfl (by simp [Act.eval,Act.put]) ?_;refine (slices_Clone_string_string.calls A c m.f7 m.f7 ((w.alloc (.cells #[m.f0,m.f1,m.f2,m.f3,m.f4,m.f5,m.f6,.slice A m.f7.length c] 28)).alloc (.cells #[.int .i64 0,.int .i64 0,.int .i64 0,.slice none 0 0] 63)).drew (Kd.C_drew (Kd.C_alloc (Kd.C_alloc HC.out _) _)) HCC.out HL.out).mono ?_;rintro e w3 ⟨v7,rfl,hR,hb3⟩;obtain ⟨AR,cR,eR⟩:=Kd.R_slice hR;subst eR;have HB3:=sd hb3;have HR:=sd hR;have HBM3:=sd ((hb3.block w.heap.size (by rw [alloc2_size];omega)).trans HBM.out);have HBZ3:=sd ((hb3.block (w.heap.size+1) (by rw [alloc2_size];omega)).trans HBZ.out);have HF:=sd (fun u0 u1 u2 u3:Value=>blk_far (p:=⟨w.heap.size+1,3,none⟩) (blk_far (p:=⟨w.heap.size+1,2,none⟩) (blk_far (p:=⟨w.heap.size+1,1,none⟩) (blk_far (p:=⟨w.heap.size+1,0,none⟩) HBM3.out (by simp) u0) (by simp) u1) (by simp) u2) (by simp) u3);have hz0:w3.cell? ⟨w.heap.size+1,0,none⟩=some (.int .i64 0):=blk_cell HBZ3.out 0;have hz1:w3.cell? ⟨w.heap.size+1,1,none⟩=some (.int .i64 0):=blk_cell HBZ3.out 1;have hz2:w3.cell? ⟨w.heap.size+1,2,none⟩=some (.int .i64 0):=blk_cell HBZ3.out 2;have hz3:w3.cell? ⟨w.heap.size+1,3,none⟩=some (.slice none 0 0):=blk_cell HBZ3.out 3;have hf0:w3.frozen? ⟨w.heap.size+1,0,none⟩=false:=blk_frozen HBZ3.out 0;have hf1:w3.frozen? ⟨w.heap.size+1,1,none⟩=false:=blk_frozen HBZ3.out 1;have hf2:w3.frozen? ⟨w.heap.size+1,2,none⟩=false:=blk_frozen HBZ3.out 2;have hf3:w3.frozen? ⟨w.heap.size+1,3,none⟩=false:=blk_frozen HBZ3.out 3;clear hb3 hR;refine ⟨_,rfl,?_⟩))
 all_goals
  go_wp2
  refine bodyPost_ret (results_ct rfl _ _ (w.heap.size+1) 63 #[m.f1,m.f4,m.f5,.slice AR m.f7.length cR] (0,0) _ rfl ?_ Tryz.underlying63 rfl (by kernel_rfl)) rfl ?_
  ·refine blk_put (cs:=#[m.f1,m.f4,m.f5,.slice none 0 0]) ?_ 3 _ rfl
   refine blk_put (cs:=#[m.f1,m.f4,.int .i64 0,.slice none 0 0]) ?_ 2 _ rfl
   refine blk_put (cs:=#[m.f1,.int .i64 0,.int .i64 0,.slice none 0 0]) ?_ 1 _ rfl
   exact blk_put (cs:=#[.int .i64 0,.int .i64 0,.int .i64 0,.slice none 0 0]) HBZ3.out 0 _ rfl
  ·have hge:w.heap.size≤w.heap.size+1:=by omega
   have hb4:Below w.heap.size w w3:=(below_drew (below_alloc (below_alloc (Below.refl _ _) _) _)).trans (below_weak HB3.out (by rw [alloc2_size];omega))
   exact ⟨_,rfl,Kd.R_mono (Kd.R_far (p:=⟨w.heap.size+1,3,none⟩) (Kd.R_far (p:=⟨w.heap.size+1,2,none⟩) (Kd.R_far (p:=⟨w.heap.size+1,1,none⟩) (Kd.R_far (p:=⟨w.heap.size+1,0,none⟩) (Kd.R_types (Kd.R_lower HR.out (by rw [alloc2_size];omega)) HBZ3.out (by decide)) (fun _ hk=>hk.2) _) (fun _ hk=>hk.2) _) (fun _ hk=>hk.2) _) (fun _ hk=>hk.2) _) (fun _ hk=>trivial),below_set (below_set (below_set (below_set hb4 hge) hge) hge) hge⟩
def commitOf (l:List Int):Int:=if l.length=0 then 0 else max ((quorum_Commit.sorted l).getD (l.length - (l.length / 2+1)) 0) 0
theorem commit_of (l:List Int) (h:l.length≤1000):quorum_Commit.f l=some (commitOf l):=by
 unfold quorum_Commit.f commitOf
 rw [if_pos (show l.length < 4398046511104 by omega)]
 split<;>rfl
def enoughOf (l:List S63) (n:Int):Bool:=decide (n / 2+1≤((quorum_Enough.froms l).length:Int))
theorem enough_of (l:List S63) (n:Int) (hn:1≤n) (hn2:n≤1000) (h:l.length≤1000) (hw:∀ v,v∈l→0≤v.f0∧v.f0≤1000):quorum_Enough.f l n=some (enoughOf l n):=by
 unfold quorum_Enough.f enoughOf
 have hwf:l.all (fun v=>(Lit.int .i64 v.f0).wf)=true:=by
  rw [List.all_eq_true]
  intro v hv
  have:=hw v hv
  exact WalkArith.wf_i64 (by omega)
 rw [if_neg (show ¬ n < 1 by omega),if_pos ⟨hwf,by omega,by omega⟩]
def bestOf (l:List S63):S63:=match l with
 | []=>z63
 | v::l=>quorum_Best.best l v
theorem best_mem (l:List S63) (v:S63):quorum_Best.best l v∈v::l:=by
 induction l generalizing v with
 | nil=>simp [quorum_Best.best]
 | cons u l ih =>
  have h:quorum_Best.best (u::l) v=quorum_Best.best l (if quorum_Best.better u v then u else v):=rfl
  rw [h]
  have:=ih (if quorum_Best.better u v then u else v)
  rcases List.mem_cons.1 this with e | e
  ·rw [e]
   split<;>simp
  ·simp [e]
theorem bestOf_mem (l:List S63) (h:l≠[]):bestOf l∈l:=by
 cases l with
 | nil=>exact absurd rfl h
 | cons v l=>exact best_mem l v
theorem best_of (l:List S63) (hne:l≠[]) (h:l.length≤1000) (hw:∀ v,v∈l→v.f3.length≤1000):quorum_Best.f l=some ((bestOf l).f0,(bestOf l).f1,(bestOf l).f2,(bestOf l).f3,true):=by
 have hm:=hw _ (bestOf_mem l hne)
 cases l with
 | nil=>exact absurd rfl hne
 | cons v l =>
  have h1:l.length < 4398046511104:=by simp at h;omega
  have h2:(quorum_Best.best l v).f3.length < 4398046511104:=by have:(quorum_Best.best l v).f3.length≤1000:=hm;omega
  exact if_pos ⟨h1,h2⟩
def addTo (l:List S63) (v:S63):List S63:=l.filter (fun y=>y.f0≠v.f0)++[v]
theorem own_of (v:S63) (h:v.f3.length≤1000):quorum_vote_own.f v.f0 v.f1 v.f2 v.f3=some (v.f0,v.f1,v.f2,v.f3):=if_pos (by omega)
theorem add_go (l:List S63) (v:S63) (hl:l.length≤1000) (hv:v.f3.length≤1000) (hw:∀ y,y∈l→y.f3.length≤1000):∀ (j i k:Nat) (acc:List S63),i+j=l.length→j < k→acc.length≤i →
  quorum_Add.l0 k acc l (l.length:Int) (i:Int) v.f0 v.f1 v.f2 v.f3=some (acc++(l.drop i).filter (fun y=>y.f0≠v.f0)++[v]):=by
 intro j
 induction j with
 | zero =>
  intro i k acc hi hk ha
  obtain ⟨k,rfl⟩:∃ k',k=k'+1:=⟨k - 1,by omega⟩
  unfold quorum_Add.l0
  rw [if_neg (by omega),own_of v hv]
  simp only [Option.bind_some]
  rw [if_pos (by omega),List.drop_eq_nil_of_le (by omega)]
  simp
 | succ j ih =>
  intro i k acc hi hk ha
  obtain ⟨k,rfl⟩:∃ k',k=k'+1:=⟨k - 1,by omega⟩
  have hlt:i < l.length:=by omega
  have hrd:rd_T63 l (i:Int)=l[i]:=by simp [rd_T63,List.getD_eq_getElem?_getD,List.getElem?_eq_getElem hlt]
  have hwr:wrap64 ((i:Int)+1)=((i+1:Nat):Int):=by unfold wrap64;omega
  have hd:l.drop i=l[i]::l.drop (i+1):=List.drop_eq_getElem_cons hlt
  unfold quorum_Add.l0
  rw [if_pos (by omega),if_pos (by omega),if_pos (by omega),hrd,hwr]
  split
  ·rename_i he
   rw [ih (i+1) k acc (by omega) (by omega) (by omega),hd,List.filter_cons_of_neg (by simp [he])]
  ·rename_i he
   rw [own_of l[i] (hw _ (List.getElem_mem hlt))]
   simp only [Option.bind_some]
   rw [if_pos (by omega),ih (i+1) k _ (by omega) (by omega) (by simp;omega),hd,List.filter_cons_of_pos (by simp [he])]
   simp
theorem add_of (l:List S63) (v:S63) (hl:l.length≤1000) (hv:v.f3.length≤1000) (hw:∀ y,y∈l→y.f3.length≤1000):quorum_Add.f (l.length+1) l v.f0 v.f1 v.f2 v.f3=some (addTo l v):=by
 have h:=add_go l v hl hv hw l.length 0 (l.length+1) [] (by omega) (by omega) (by simp)
 exact h
section
section
variable {w0 w W:World} {base g:Nat} {ok:Nat→Prop} {x y:Nod} {o:Obj}
def Okb (w0 w:World) (ok:Nat→Prop):Nat→Prop:=fun k=>(ok k∨w0.heap.size≤k)∧k < w.heap.size
theorem Did.boxed (h:Did w0 w base g ok x) (o:Obj):Did (w.alloc o) (w.alloc o) base g (Okb w0 w ok) x:=by
 refine Did.refl ((h.1.bound.below (below_alloc (Below.refl _ _) o)).mono (fun k hk=>⟨hk.1,hk.2.1⟩))
theorem Did.unbox (h:Did w0 w base g ok x) (k:Did (w.alloc o) W base g (Okb w0 w ok) y):Did w0 W base g ok y:=by
 have hs:=h.2.2.1.size
 have hb:=h.2.2.2.1
 have h1:Did w W base g (fun k=>ok k∨w0.heap.size≤k) y:=by
  refine ⟨k.1.mono (fun i hi=>?_),?_,?_,by omega,.inl h.2.2.2.2⟩
  ·rcases hi with hi | hi
   ·exact .inl hi.1
   ·exact .inr (by have:(w.alloc o).heap.size=w.heap.size+1:=(by simp);omega)
  ·exact (kept_alloc_ (Kept.refl w _) o).then_ k.2.1 (fun i hi=>.inl hi.1)
  ·exact (below_new (Below.refl base w) (by omega) o).trans k.2.2.1
 exact h.then_ h1
theorem Did.box (k:Did (w.alloc o) W base g (Okb w0 w ok) y):W.heap[w.heap.size]?=some o:=by
 have h:=k.2.1.2 w.heap.size (by simp) (fun hk=>by have:=hk.2;omega)
 exact h.trans (x_alloc_new w o)
theorem Did.reads (h:Did w0 w base g ok x) {A:Option Addr} {l:List ByteArray} (hM:∀ W,Below base w0 W→Kd.C Kd.string W A l.length l) (k:Did (w.alloc o) W base g (Okb w0 w ok) y):Kd.C Kd.string W A l.length l :=
 hM W (h.unbox k).2.2.1
end
theorem blk_far_inv {w:World} {b:Nat} {r:Option Obj} {p:Addr} {v:Value} (h:(w.setCell p v).heap[b]?=r) (hne:b≠p.block):w.heap[b]?=r:=(Below.heap_setCell w p v b hne).symm.trans h
def Nod.ackOf (x:Nod) (m:S28):S28:=⟨2,x.id,m.f1,x.view,0,0,(x.log.length:Int),[]⟩
def Nod.takes (x:Nod) (m:S28):Nod:=if m.f3 > x.view∨x.works=false then Nod.clear { x with view:=m.f3,works:=true,last:=m.f3,log:=m.f7 } else if m.f7.length > x.log.length then { x with log:=m.f7 } else x
def Nod.settle (x:Nod) (m:S28):Nod:={ x with commit:=min (max x.commit m.f5) (x.log.length:Int) }
def Nod.prepare (x:Nod) (m:S28):Nod:=if m.f3 % x.n=m.f1 then let z:=(x.takes m).settle m;z.say (z.ackOf m) else x
end
end Go.Proofs.YtfpfpckocemmdaaGreat.P
