/- Part 41 of the walk. -/
import Derived.Test.YtfpfpckocemmdaaGreatCDoes40
set_option linter.unusedVariables false
set_option linter.unusedSimpArgs false
set_option maxHeartbeats 8000000
set_option maxRecDepth 100000
namespace Go.Proofs.YtfpfpckocemmdaaGreat.P
open Go.RowKit Go.Proofs.YtfpfpckocemmdaaGreatW.PrintWords Go.Proofs.YtfpfpckocemmdaaGreatW.PrintLast Go.Proofs.YtfpfpckocemmdaaGreatW.PrintMore
section
structure Rd (w W:World) (g:Nat) (cs:Array Value) (t:Nat):Prop where
 x:W.heap[g]?=some (.cells cs t (0,0))
 b:Below w.heap.size w W
section
variable {w W W1:World} {g t:Nat} {cs:Array Value} {P:World→Prop}
theorem Rd.call (h:Rd w W g cs t) (hb:Below W.heap.size W W1):Rd w W1 g cs t:=⟨(hb.block _ (blk_lt h.x)).trans h.x,below_then h.b h.b.size hb⟩
theorem Rd.drew (h:Rd w W g cs t):Rd w W.drew g cs t:=⟨h.x,below_drew_any h.b⟩
theorem Rd.gen (h:Rd w W g cs t) (k:∀ V,Rd w V g cs t→P V):P W:=k W h
theorem rd1 (w:World) (cs:Array Value) (t:Nat):Rd w (w.alloc (.cells cs t)) w.heap.size cs t:=⟨x_alloc_new w _,below_alloc (Below.refl _ _) _⟩
def Rd.at (_:Rd w W g cs t) (V:World):Prop:=Rd w V g cs t
end
def front1 (x:Nod):Bool:=!sizeB x.n || decide (x.id < 0) || decide (x.n≤x.id) || decide (x.view < 0) || decide (1000000 < x.view) || decide (x.last < 0) || decide (x.view < x.last) || (x.works && (x.last != x.view))
def front2 (x:Nod):Bool:=!shortB x.log || decide (x.commit < 0) || decide ((x.log.length:Int) < x.commit) || ((x.acks.length:Int) != x.n)
def votesR (x:Nod):Bool:=votesB x.n x.view x.votes [] && decide ((x.votes.length:Int)≤x.n)
theorem is_parts (x:Nod):isB x=(!front1 x && !front2 x && x.acks.all (fun a=>withinB a (x.log.length:Int)) && votesR x):=by
 unfold isB frontB viewsB front1 front2 votesR
 rw [logged_short]
 generalize sizeB x.n=b1
 generalize votesB x.n x.view x.votes []=b2
 generalize shortB x.log=b3
 generalize x.acks.all (fun a=>withinB a (x.log.length:Int))=b4
 unfold withinB
 rw [Bool.eq_iff_iff]
 cases b1<;>cases b2<;>cases b3<;>cases b4<;>cases x.works<;>simp<;>omega
theorem Rd.boxk {w W:World} {g t t2:Nat} {cs c2:Array Value} {P:World→Prop} (h:Rd w W g cs t) (k:∀ V,Rd w V g cs t→V.heap[W.heap.size]?=some (.cells c2 t2 (0,0))→Below W.heap.size W V→P V):P (W.alloc (.cells c2 t2)) :=
 k _ (h.call (below_alloc (Below.refl _ _) _)) (x_alloc_new W _) (below_alloc (Below.refl _ _) _)
def badV (x:Nod) (v:S63):Bool:=decide (v.f0 < 0) || decide (x.n≤v.f0) || decide (v.f1 < 0) || decide (x.view < v.f1) || !shortB v.f3 || decide (v.f2 < 0) || decide ((v.f3.length:Int) < v.f2)
theorem votesB_step (x:Nod) (v:S63) (l:List S63) (seen:List Int):votesB x.n x.view (v::l) seen=(!badV x v && !seen.contains v.f0 && votesB x.n x.view l (v.f0::seen)):=by
 show (if _ then _ else _)=_
 have e:(seen.contains v.f0 || !withinB v.f0 (x.n - 1) || !withinB v.f1 x.view || !loggedB v.f3 v.f2)=(badV x v || seen.contains v.f0):=by
  rw [logged_short];unfold badV withinB
  rw [Bool.eq_iff_iff]
  cases seen.contains v.f0<;>cases shortB v.f3<;>simp<;>omega
 rw [e]
 cases badV x v<;>cases seen.contains v.f0<;>simp
theorem rvotes_new {x:Nod} (hf:Few x) {A6 A7 A8:Option Addr} {c6 c7 c8:Nat} {w:World} (ha:Arg w x A6 A7 A8 c6 c7 c8) :
  Calls Tryz.prog 63 #[ag x (.slice A6 x.log.length c6) (.slice A7 x.acks.length c7) (.slice A8 x.votes.length c8)] w fun e w'=>e=.returned (.bool (votesR x))∧Below w.heap.size w w':=by
 have hu26:=Tryz.underlying26
 have hu22:=Tryz.underlying22
 have hu24:=Tryz.underlying24
 have hu63:=Tryz.underlying63
 have H:=rd1 w (row9 x (.slice A6 x.log.length c6) (.slice A7 x.acks.length c7) (.slice A8 x.votes.length c8)) 26
 dsimp only [ag,row9] at H ⊢
 go_enter Tryz.func63,Tryz.ntmps63
 go_upto_region 1 with (fail)
 refine H.gen ?_;clear H;intro V H
 go_wp2_with (fail)
 go_loopg [3] x.votes.length (fun kq s w'=>∃ i:Nat,s=.int .i64 (i:Int)∧Aside0 (kq=x.votes.length - i∧i≤x.votes.length∧votesB x.n x.view x.votes []=votesB x.n x.view (x.votes.drop i) (seenB x.votes i))∧H.at w')
 case atStart=>exact ⟨0,rfl,⟨by simp [seenB]⟩,H⟩
 case round =>
  obtain ⟨i,rfl,hi,H⟩:=hrel
  replace H:Rd _ _ _ _ _:=H
  obtain ⟨p0,p1,p2,p3,p4,p5,p6,p7,p8⟩:=cells9 H.x
  by_cases hlt:i < x.votes.length
  ·have hb1:decide ((i:Int) < (x.votes.length:Int))=true:=decide_eq_true (by omega)
   have p1':(0:Int)≤(i:Int):=by omega
   have q1':(i:Int) < (x.votes.length:Int):=by omega
   obtain ⟨ad,A3,c3,rfl,hy0,hy1,hy2,hy3,hly,hiy⟩:=at_T63 (ha.below H.b).h8 (i:Int) p1' q1'
   have hve:rd_T63 x.votes (i:Int)=x.votes[i]:=by simp [rd_T63,List.getD_eq_getElem?_getD,hlt]
   rw [hve] at hy0 hy1 hy2 hy3 hly hiy
   simp only [Int.toNat_natCast] at hy0 hy1 hy2 hy3
   have hvl:=hf.each _ (List.getElem_mem hlt)
   have hT:=Aside0.mk (show votesB x.n x.view x.votes []=(!badV x x.votes[i] && !(seenB x.votes i).contains (x.votes[i]).f0 && votesB x.n x.view (x.votes.drop (i+1)) (seenB x.votes (i+1))) by rw [hi.out.2.2,List.drop_eq_getElem_cons hlt,votesB_step,seenB_succ x.votes i hlt])
   generalize x.votes[i]=v at hy0 hy1 hy2 hy3 hly hiy hvl hT
   replace p1':=eq_true p1'
   replace q1':=eq_true q1'
   go_upto_region 5 with (fail)
   clear p0 p1 p2 p3 p4 p5 p6 p7 p8 hy0 hy1 hy2 hy3
   refine H.boxk ?_
   intro V2 K hx hbl
   replace hiy:=Kd.C_below hiy hbl
   clear hbl
   generalize wr.heap.size=gb at hx ⊢
   go_cut [58] (fun s wx=>s=.bool (badV x v)∧K.at wx∧wx.heap[gb]?=some (.cells #[.int .i64 v.f0,.int .i64 v.f1,.int .i64 v.f2,.slice A3 v.f3.length c3] 63 (0,0)))
   case first =>
    obtain ⟨p0,p1,p2,p3,p4,p5,p6,p7,p8⟩:=cells9 K.x
    obtain ⟨q0,q1,q2,q3⟩:=cells4 hx
    go_wp2_with (go_at_call 62;refine (sextonref23_Log.calls 1001 A3 c3 v.f3 _ V2 hiy hly (rlog_f _ hvl _ (Nat.le_refl _))).mono ?_;rintro e' w1 ⟨rfl,hd⟩;have hx1:=(hd.below.block _ (blk_lt hx)).trans hx;have K1:=K.call hd.below;obtain ⟨q0,q1,q2,q3⟩:=cells4 hx1)
    all_goals
     go_meet
     first
      | exact ⟨by simp [badV, *]<;>omega,K1,hx1⟩
      | exact ⟨by simp [badV, *]<;>omega,K,hx⟩
   clear hx hiy
   obtain ⟨rfl,H2,hx⟩:=hcut
   replace H2:Rd _ _ _ _ _:=H2
   cases hbv:badV x v
   ·rw [hbv,Bool.not_false,Bool.true_and] at hT
    go_wp2_with (fail)
    go_loopg [5] i (fun kq s w'=>∃ k:Nat,s=.int .i64 (k:Int)∧Aside0 (kq=i - k∧k≤i∧∀ u,u∈x.votes.take k→u.f0≠v.f0)∧H2.at w'∧w'.heap[gb]?=some (.cells #[.int .i64 v.f0,.int .i64 v.f1,.int .i64 v.f2,.slice A3 v.f3.length c3] 63 (0,0)))
    case atStart=>exact ⟨0,rfl,⟨by simp⟩,H2,hx⟩
    case round =>
     obtain ⟨k,rfl,hk,K3,hx⟩:=hrel
     replace K3:Rd _ _ _ _ _:=K3
     obtain ⟨p0,p1,p2,p3,p4,p5,p6,p7,p8⟩:=cells9 K3.x
     obtain ⟨q0,q1,q2,q3⟩:=cells4 hx
     by_cases hkt:k < i
     ·have hb2:decide ((k:Int) < (i:Int))=true:=decide_eq_true (by omega)
      have p2':(0:Int)≤(k:Int):=by omega
      have q2':(k:Int) < (x.votes.length:Int):=by omega
      obtain ⟨ad2,B3,d3,e,hz0,-,-,-,-,-⟩:=at_T63 (ha.below K3.b).h8 (k:Int) p2' q2'
      cases e
      have hkl:k < x.votes.length:=by omega
      rw [show rd_T63 x.votes (k:Int)=x.votes[k] by simp [rd_T63,List.getD_eq_getElem?_getD,hkl]] at hz0
      simp only [Int.toNat_natCast] at hz0
      have hS:=Aside0.mk (List.take_succ_eq_append_getElem hkl)
      have hM:=Aside0.mk (show (x.votes[k]).f0∈seenB x.votes i by unfold seenB;rw [List.mem_reverse];exact List.mem_map.2 ⟨_,List.mem_take_iff_getElem.2 ⟨k,by omega,rfl⟩,rfl⟩)
      generalize x.votes[k]=u at hz0 hS hM
      replace p2':=eq_true p2'
      replace q2':=eq_true q2'
      go_upto_region 10 with (fail)
      have K4:=K3.drew
      cases he:(u.f0==v.f0)
      all_goals
       go_region_held3 (fun W=>W.cell? ⟨w.heap.size,8,none⟩=some (.slice (some ad) x.votes.length c8)∧W.cell? (ad.add (k * 4))=some (.int .i64 u.f0)∧W.cell? ⟨gb,0,none⟩=some (.int .i64 v.f0)) (exact ⟨p8,hz0,q0⟩) (fail)
       go_wp2
      ·go_roundg (i - (k+1))
       case measure=>have:=hk.out.1;omega
       case rel =>
        refine ⟨k+1,by rw [show wrap64 ((k:Int)+1)=((k+1:Nat):Int) by have:=hf.votes;unfold wrap64;omega],⟨by have:=hk.out;omega,by omega,fun y hy=>?_⟩,K4,hx⟩
        rw [hS.out,List.mem_append,List.mem_singleton] at hy
        rcases hy with hy | rfl
        ·exact hk.out.2.2 y hy
        ·exact beq_eq_false_iff_ne.1 he
      ·go_ret
       exact ⟨by unfold votesR;rw [hT.out,show (seenB x.votes i).contains v.f0=true by rw [← beq_iff_eq.1 he];simpa using hM.out];rfl,K4.b⟩
     ·have hb2:decide ((k:Int) < (i:Int))=false:=decide_eq_false (by omega)
      have hno:(seenB x.votes i).contains v.f0=false:=by
       rw [show k=i by have:=hk.out;omega] at hk
       rw [List.contains_eq_mem,decide_eq_false_iff_not]
       unfold seenB
       rw [List.mem_reverse,List.mem_map]
       rintro ⟨u,hu,he⟩
       exact hk.out.2.2 u hu he
      rw [hno,Bool.not_false,Bool.true_and] at hT
      go_wp2
      go_roundg (x.votes.length - (i+1))
      case measure=>have:=hi.out.1;omega
      case rel=>exact ⟨i+1,by rw [show wrap64 ((i:Int)+1)=((i+1:Nat):Int) by have:=hf.votes;unfold wrap64;omega],⟨by have:=hi.out;omega,by omega,hT.out⟩,K3⟩
   ·go_wp2
    go_ret
    exact ⟨by unfold votesR;rw [hT.out,hbv];rfl,H2.b⟩
  ·have hb1:decide ((i:Int) < (x.votes.length:Int))=false:=decide_eq_false (by omega)
   go_wp2
   go_ret
   refine ⟨?_,H.b⟩
   unfold votesR
   rw [hi.out.2.2,List.drop_eq_nil_of_le (by omega)]
   rfl
theorem ris_stays {x:Nod} {r:Bool} (h:isB x=r) (hf:Few x) {A6 A7 A8:Option Addr} {c6 c7 c8:Nat} {w:World} (ha:Arg w x A6 A7 A8 c6 c7 c8) :
  Calls Tryz.prog 21 #[ag x (.slice A6 x.log.length c6) (.slice A7 x.acks.length c7) (.slice A8 x.votes.length c8)] w fun e w'=>e=.returned (.bool r)∧Below w.heap.size w w':=by
 have hu26:=Tryz.underlying26
 have hu22:=Tryz.underlying22
 have hu23:=Tryz.underlying23
 have hu24:=Tryz.underlying24
 have H:=rd1 w (row9 x (.slice A6 x.log.length c6) (.slice A7 x.acks.length c7) (.slice A8 x.votes.length c8)) 26
 dsimp only [ag,row9] at H ⊢
 replace h:=Aside0.mk h
 go_enter Tryz.func21,Tryz.ntmps21
 go_upto_region 1 with (fail)
 refine H.gen ?_;clear H;intro V H
 go_cut [0,52] (fun _ s wx=>s=.bool (front1 x)∧H.at wx)
 case first =>
  obtain ⟨p0,p1,p2,p3,p4,p5,p6,p7,p8⟩:=cells9 H.x
  go_wp2_with (fail)
  go_at_call 59
  refine (sextonref24_size.calls x.n _ V (rsize_f x.n)).mono ?_
  rintro e' w1 ⟨rfl,hd⟩
  replace H:=H.call hd.below
  clear p0 p1 p2 p3 p4 p5 p6 p7 p8
  obtain ⟨p0,p1,p2,p3,p4,p5,p6,p7,p8⟩:=cells9 H.x
  go_wp2
  all_goals
   go_meet
   exact ⟨by simp [front1, *]<;>omega,H⟩
 obtain ⟨rfl,H⟩:=hcut
 replace H:Rd _ _ _ _ _:=H
 cases h1:front1 x
 ·go_upto_region 3 with (fail)
  go_cut [77] (fun s wx=>s=.bool (front2 x)∧H.at wx)
  case first =>
   obtain ⟨p0,p1,p2,p3,p4,p5,p6,p7,p8⟩:=cells9 H.x
   go_wp2_with (fail)
   go_at_call 62
   refine (sextonref23_Log.calls 1001 A6 c6 x.log _ wc (ha.below H.b).h6 ha.l6 (rlog_f _ hf.log _ (Nat.le_refl _))).mono ?_
   rintro e' w1 ⟨rfl,hd⟩
   replace H:=H.call hd.below
   clear p0 p1 p2 p3 p4 p5 p6 p7 p8
   obtain ⟨p0,p1,p2,p3,p4,p5,p6,p7,p8⟩:=cells9 H.x
   go_wp2
   all_goals
    go_meet
    exact ⟨by simp [front2, *]<;>omega,H⟩
  obtain ⟨rfl,H⟩:=hcut
  replace H:Rd _ _ _ _ _:=H
  cases h2:front2 x
  ·go_wp2_with (fail)
   go_loopg [3] x.acks.length (fun kq s w'=>∃ i:Nat,s=.int .i64 (i:Int)∧Aside0 (kq=x.acks.length - i∧i≤x.acks.length∧(x.acks.take i).all (fun a=>withinB a (x.log.length:Int))=true)∧H.at w')
   case atStart=>exact ⟨0,rfl,⟨by simp⟩,H⟩
   case round =>
    obtain ⟨i,rfl,hi,H⟩:=hrel
    replace H:Rd _ _ _ _ _:=H
    obtain ⟨p0,p1,p2,p3,p4,p5,p6,p7,p8⟩:=cells9 H.x
    by_cases hlt:i < x.acks.length
    ·have hb1:decide ((i:Int) < (x.acks.length:Int))=true:=decide_eq_true (by omega)
     have p1':(0:Int)≤(i:Int):=by omega
     have q1':(i:Int) < (x.acks.length:Int):=by omega
     obtain ⟨ad,rfl,hc⟩:=Kd.at_int (ha.below H.b).h7 (i:Int) p1' q1'
     have hae:rd x.acks (i:Int)=x.acks[i]:=by simp [rd,rdOf,List.getD_eq_getElem?_getD,hlt]
     rw [hae] at hc
     simp only [Int.toNat_natCast] at hc
     have hT:=Aside0.mk (List.take_succ_eq_append_getElem hlt)
     have hA:=Aside0.mk (show withinB x.acks[i] (x.log.length:Int)=false→isB x=false from fun h=>by rw [is_parts,show x.acks.all _=false from List.all_eq_false.2 ⟨_,List.getElem_mem hlt,by simpa using h⟩];simp)
     generalize x.acks[i]=a at hc hT hA
     replace p1':=eq_true p1'
     replace q1':=eq_true q1'
     go_upto_region 8 with (fail)
     have h3:decide (a < 0)=true∨(decide (a < 0)=false∧decide ((x.log.length:Int) < a)=true)∨(decide (a < 0)=false∧decide ((x.log.length:Int) < a)=false):=by cases decide (a < 0)<;>cases decide ((x.log.length:Int) < a)<;>simp
     have K:=H.drew
     rcases h3 with h3 | h3
     ·go_region
      go_wp2
      go_ret
      exact ⟨by rw [← h.out,hA.out (by unfold withinB;rw [decide_eq_false (by have:=of_decide_eq_true h3;omega)];rfl)];rfl,K.b⟩
     ·rcases h3 with ⟨h3,h4⟩ | ⟨h3,h4⟩
      all_goals
       go_region_held3 (fun W=>W.cell? ⟨w.heap.size,7,none⟩=some (.slice (some ad) x.acks.length c7)∧W.cell? ⟨w.heap.size,6,none⟩=some (.slice A6 x.log.length c6)∧W.cell? (ad.add i)=some (.int .i64 a)) (exact ⟨p7,p6,hc⟩) (fail)
       go_wp2
      ·go_ret
       exact ⟨by rw [← h.out,hA.out (by unfold withinB;rw [decide_eq_false (show ¬ a≤_ by have:=of_decide_eq_true h4;omega)];simp)];rfl,K.b⟩
      ·go_roundg (x.acks.length - (i+1))
       case measure=>have:=hi.out.1;omega
       case rel=>exact ⟨i+1,by rw [show wrap64 ((i:Int)+1)=((i+1:Nat):Int) by have:=hf.acks;unfold wrap64;omega],⟨by have:=hi.out;omega,by omega,by rw [hT.out,List.all_append,hi.out.2.2];simp [withinB];have:=of_decide_eq_false h3;have:=of_decide_eq_false h4;omega⟩,K⟩
    ·have hb1:decide ((i:Int) < (x.acks.length:Int))=false:=decide_eq_false (by omega)
     have hal:x.acks.all (fun a=>withinB a (x.log.length:Int))=true:=by have:=hi.out.2.2;rwa [show i=x.acks.length by have:=hi.out;omega,List.take_length] at this
     go_wp2_with (fail)
     go_at_call 63
     refine (rvotes_new hf (ha.below H.b)).mono ?_
     rintro e' w1 ⟨rfl,hb⟩
     replace H:=H.call hb
     go_wp2
     go_ret
     exact ⟨by rw [← h.out,is_parts,h1,h2,hal];rfl,H.b⟩
  ·go_wp2
   go_ret
   exact ⟨by rw [← h.out,is_parts,h2,h1];rfl,H.b⟩
 ·go_wp2
  go_ret
  exact ⟨by rw [← h.out,is_parts,h1];rfl,H.b⟩
end
section
attribute [local go_sem] max2_int min2_int max_two min_two max_three min_three max_four min_four
theorem rprimary_calls (x:Nod) (view:Int) (A6 A7 A8:Option Addr) (n6 n7 n8 c6 c7 c8:Nat) (w:World) (hv:0≤view) (hn:1≤x.n) :
  Calls Tryz.prog 40 #[.agg #[.int .i64 x.id,.int .i64 x.n,.int .i64 x.view,.int .i64 x.last,.bool x.works,.int .i64 x.commit,.slice A6 n6 c6,.slice A7 n7 c7,.slice A8 n8 c8],.int .i64 view] w fun e w'=>e=.returned (.bool (x.prim view))∧Below w.heap.size w w':=by
 have hu26:=Tryz.underlying26
 have HE:=Aside0.mk (show (Int.tmod view x.n==x.id)=x.prim view from by rw [Int.tmod_eq_emod_of_nonneg hv];rfl)
 have hn0:(x.n==0)=false:=by simp;omega
 have hn1:¬ x.n=0:=by omega
 have HB:=Aside0.mk (below_alloc (Below.refl w.heap.size w) (.cells #[.int .i64 x.id,.int .i64 x.n,.int .i64 x.view,.int .i64 x.last,.bool x.works,.int .i64 x.commit,.slice A6 n6 c6,.slice A7 n7 c7,.slice A8 n8 c8] 26))
 have p0:(w.alloc (.cells #[.int .i64 x.id,.int .i64 x.n,.int .i64 x.view,.int .i64 x.last,.bool x.works,.int .i64 x.commit,.slice A6 n6 c6,.slice A7 n7 c7,.slice A8 n8 c8] 26)).cell? ⟨w.heap.size,0,none⟩=some (.int .i64 x.id):=blk_cell (x_alloc_new w (.cells #[.int .i64 x.id,.int .i64 x.n,.int .i64 x.view,.int .i64 x.last,.bool x.works,.int .i64 x.commit,.slice A6 n6 c6,.slice A7 n7 c7,.slice A8 n8 c8] 26)) 0
 have p1:(w.alloc (.cells #[.int .i64 x.id,.int .i64 x.n,.int .i64 x.view,.int .i64 x.last,.bool x.works,.int .i64 x.commit,.slice A6 n6 c6,.slice A7 n7 c7,.slice A8 n8 c8] 26)).cell? ⟨w.heap.size,1,none⟩=some (.int .i64 x.n):=blk_cell (x_alloc_new w (.cells #[.int .i64 x.id,.int .i64 x.n,.int .i64 x.view,.int .i64 x.last,.bool x.works,.int .i64 x.commit,.slice A6 n6 c6,.slice A7 n7 c7,.slice A8 n8 c8] 26)) 1
 clear hv hn
 go_enter Tryz.func40,Tryz.ntmps40
 go_wp2_with (fail)
 go_region
 go_wp2_with (fail)
 go_ret
 exact ⟨by rw [HE.out];rfl,below_drew_any HB.out⟩
theorem rleads_calls (x:Nod) (A6 A7 A8:Option Addr) (n6 n7 n8 c6 c7 c8:Nat) (w:World) (hv:0≤x.view) (hn:1≤x.n) :
  Calls Tryz.prog 31 #[.agg #[.int .i64 x.id,.int .i64 x.n,.int .i64 x.view,.int .i64 x.last,.bool x.works,.int .i64 x.commit,.slice A6 n6 c6,.slice A7 n7 c7,.slice A8 n8 c8]] w fun e w'=>e=.returned (.bool x.leads)∧Below w.heap.size w w':=by
 have hu26:=Tryz.underlying26
 have HE:=Aside0.mk (show x.leads=(x.works && x.prim x.view) from rfl)
 have HV:=Aside0.mk (And.intro hv hn)
 have HB:=Aside0.mk (below_alloc (Below.refl w.heap.size w) (.cells #[.int .i64 x.id,.int .i64 x.n,.int .i64 x.view,.int .i64 x.last,.bool x.works,.int .i64 x.commit,.slice A6 n6 c6,.slice A7 n7 c7,.slice A8 n8 c8] 26))
 have p0:(w.alloc (.cells #[.int .i64 x.id,.int .i64 x.n,.int .i64 x.view,.int .i64 x.last,.bool x.works,.int .i64 x.commit,.slice A6 n6 c6,.slice A7 n7 c7,.slice A8 n8 c8] 26)).cell? ⟨w.heap.size,0,none⟩=some (.int .i64 x.id):=blk_cell (x_alloc_new w (.cells #[.int .i64 x.id,.int .i64 x.n,.int .i64 x.view,.int .i64 x.last,.bool x.works,.int .i64 x.commit,.slice A6 n6 c6,.slice A7 n7 c7,.slice A8 n8 c8] 26)) 0
 have p1:(w.alloc (.cells #[.int .i64 x.id,.int .i64 x.n,.int .i64 x.view,.int .i64 x.last,.bool x.works,.int .i64 x.commit,.slice A6 n6 c6,.slice A7 n7 c7,.slice A8 n8 c8] 26)).cell? ⟨w.heap.size,1,none⟩=some (.int .i64 x.n):=blk_cell (x_alloc_new w (.cells #[.int .i64 x.id,.int .i64 x.n,.int .i64 x.view,.int .i64 x.last,.bool x.works,.int .i64 x.commit,.slice A6 n6 c6,.slice A7 n7 c7,.slice A8 n8 c8] 26)) 1
 have p2:(w.alloc (.cells #[.int .i64 x.id,.int .i64 x.n,.int .i64 x.view,.int .i64 x.last,.bool x.works,.int .i64 x.commit,.slice A6 n6 c6,.slice A7 n7 c7,.slice A8 n8 c8] 26)).cell? ⟨w.heap.size,2,none⟩=some (.int .i64 x.view):=blk_cell (x_alloc_new w (.cells #[.int .i64 x.id,.int .i64 x.n,.int .i64 x.view,.int .i64 x.last,.bool x.works,.int .i64 x.commit,.slice A6 n6 c6,.slice A7 n7 c7,.slice A8 n8 c8] 26)) 2
 have p3:(w.alloc (.cells #[.int .i64 x.id,.int .i64 x.n,.int .i64 x.view,.int .i64 x.last,.bool x.works,.int .i64 x.commit,.slice A6 n6 c6,.slice A7 n7 c7,.slice A8 n8 c8] 26)).cell? ⟨w.heap.size,3,none⟩=some (.int .i64 x.last):=blk_cell (x_alloc_new w (.cells #[.int .i64 x.id,.int .i64 x.n,.int .i64 x.view,.int .i64 x.last,.bool x.works,.int .i64 x.commit,.slice A6 n6 c6,.slice A7 n7 c7,.slice A8 n8 c8] 26)) 3
 have p4:(w.alloc (.cells #[.int .i64 x.id,.int .i64 x.n,.int .i64 x.view,.int .i64 x.last,.bool x.works,.int .i64 x.commit,.slice A6 n6 c6,.slice A7 n7 c7,.slice A8 n8 c8] 26)).cell? ⟨w.heap.size,4,none⟩=some (.bool x.works):=blk_cell (x_alloc_new w (.cells #[.int .i64 x.id,.int .i64 x.n,.int .i64 x.view,.int .i64 x.last,.bool x.works,.int .i64 x.commit,.slice A6 n6 c6,.slice A7 n7 c7,.slice A8 n8 c8] 26)) 4
 have p5:(w.alloc (.cells #[.int .i64 x.id,.int .i64 x.n,.int .i64 x.view,.int .i64 x.last,.bool x.works,.int .i64 x.commit,.slice A6 n6 c6,.slice A7 n7 c7,.slice A8 n8 c8] 26)).cell? ⟨w.heap.size,5,none⟩=some (.int .i64 x.commit):=blk_cell (x_alloc_new w (.cells #[.int .i64 x.id,.int .i64 x.n,.int .i64 x.view,.int .i64 x.last,.bool x.works,.int .i64 x.commit,.slice A6 n6 c6,.slice A7 n7 c7,.slice A8 n8 c8] 26)) 5
 have p6:(w.alloc (.cells #[.int .i64 x.id,.int .i64 x.n,.int .i64 x.view,.int .i64 x.last,.bool x.works,.int .i64 x.commit,.slice A6 n6 c6,.slice A7 n7 c7,.slice A8 n8 c8] 26)).cell? ⟨w.heap.size,6,none⟩=some (.slice A6 n6 c6):=blk_cell (x_alloc_new w (.cells #[.int .i64 x.id,.int .i64 x.n,.int .i64 x.view,.int .i64 x.last,.bool x.works,.int .i64 x.commit,.slice A6 n6 c6,.slice A7 n7 c7,.slice A8 n8 c8] 26)) 6
 have p7:(w.alloc (.cells #[.int .i64 x.id,.int .i64 x.n,.int .i64 x.view,.int .i64 x.last,.bool x.works,.int .i64 x.commit,.slice A6 n6 c6,.slice A7 n7 c7,.slice A8 n8 c8] 26)).cell? ⟨w.heap.size,7,none⟩=some (.slice A7 n7 c7):=blk_cell (x_alloc_new w (.cells #[.int .i64 x.id,.int .i64 x.n,.int .i64 x.view,.int .i64 x.last,.bool x.works,.int .i64 x.commit,.slice A6 n6 c6,.slice A7 n7 c7,.slice A8 n8 c8] 26)) 7
 have p8:(w.alloc (.cells #[.int .i64 x.id,.int .i64 x.n,.int .i64 x.view,.int .i64 x.last,.bool x.works,.int .i64 x.commit,.slice A6 n6 c6,.slice A7 n7 c7,.slice A8 n8 c8] 26)).cell? ⟨w.heap.size,8,none⟩=some (.slice A8 n8 c8):=blk_cell (x_alloc_new w (.cells #[.int .i64 x.id,.int .i64 x.n,.int .i64 x.view,.int .i64 x.last,.bool x.works,.int .i64 x.commit,.slice A6 n6 c6,.slice A7 n7 c7,.slice A8 n8 c8] 26)) 8
 clear hv hn
 generalize hw:x.works=b at *
 cases b
 ·go_enter Tryz.func31,Tryz.ntmps31
  go_wp2_with (fail)
  go_ret
  exact ⟨by rw [HE.out];rfl,HB.out⟩
 ·go_enter Tryz.func31,Tryz.ntmps31
  go_wp2_with (fail)
  go_at_call 40
  have hc:=rprimary_calls x x.view A6 A7 A8 n6 n7 n8 c6 c7 c8 (w.alloc (.cells #[.int .i64 x.id,.int .i64 x.n,.int .i64 x.view,.int .i64 x.last,.bool true,.int .i64 x.commit,.slice A6 n6 c6,.slice A7 n7 c7,.slice A8 n8 c8] 26)) HV.out.1 HV.out.2
  rw [hw] at hc
  refine hc.mono ?_
  rintro e w1 ⟨rfl,hb⟩
  replace HB:=Aside0.mk (below_step HB.out hb)
  clear hb hc p0 p1 p2 p3 p4 p5 p6 p7 p8
  go_wp2_with (fail)
  go_ret
  exact ⟨by rw [HE.out];rfl,HB.out⟩
end
section
attribute [local go_sem] max2_int min2_int max_two min_two max_three min_three max_four min_four
theorem rvote_calls (x:Nod) (A6 A7 A8:Option Addr) (n7 n8 c6 c7 c8:Nat) (w:World) (h6:Kd.C Kd.string w A6 x.log.length x.log) (l6:x.log.length≤c6) (hl:x.log.length≤1000) :
  Calls Tryz.prog 42 #[.agg #[.int .i64 x.id,.int .i64 x.n,.int .i64 x.view,.int .i64 x.last,.bool x.works,.int .i64 x.commit,.slice A6 x.log.length c6,.slice A7 n7 c7,.slice A8 n8 c8]] w fun e w'=>∃ v3,e=.returned (.agg #[.int .i64 x.id,.int .i64 x.last,.int .i64 x.commit,v3])∧Kd.R Kd.string 9 w' w.heap.size (fun _=>True) v3 x.log∧Below w.heap.size w w':=by
 have hu26:=Tryz.underlying26
 have hu22:=Tryz.underlying22
 have hu63:=Tryz.underlying63
 have HO:=Aside0.mk (fun (W:World) (hb:Below w.heap.size w W)=>sextonref01_Own.calls A6 c6 x.log x.log W (Kd.C_below h6 hb) l6 (if_pos (by simp;omega)))
 clear h6 l6 hl
 go_enter Tryz.func42,Tryz.ntmps42
 have HS:=Aside0.mk (And.intro (blk_alloc (x_alloc_new w (.cells #[.int .i64 x.id,.int .i64 x.n,.int .i64 x.view,.int .i64 x.last,.bool x.works,.int .i64 x.commit,.slice A6 x.log.length c6,.slice A7 n7 c7,.slice A8 n8 c8] 26)) (.cells #[.int .i64 0,.int .i64 0,.int .i64 0,.slice none 0 0] 63)) (And.intro (alloc2_new w (.cells #[.int .i64 x.id,.int .i64 x.n,.int .i64 x.view,.int .i64 x.last,.bool x.works,.int .i64 x.commit,.slice A6 x.log.length c6,.slice A7 n7 c7,.slice A8 n8 c8] 26) (.cells #[.int .i64 0,.int .i64 0,.int .i64 0,.slice none 0 0] 63)) (below_alloc (below_alloc (Below.refl w.heap.size w) (.cells #[.int .i64 x.id,.int .i64 x.n,.int .i64 x.view,.int .i64 x.last,.bool x.works,.int .i64 x.commit,.slice A6 x.log.length c6,.slice A7 n7 c7,.slice A8 n8 c8] 26)) (.cells #[.int .i64 0,.int .i64 0,.int .i64 0,.slice none 0 0] 63))))
 go_wp2_with (fail)
 generalize ((w.alloc (.cells #[.int .i64 x.id,.int .i64 x.n,.int .i64 x.view,.int .i64 x.last,.bool x.works,.int .i64 x.commit,.slice A6 x.log.length c6,.slice A7 n7 c7,.slice A8 n8 c8] 26)).alloc (.cells #[.int .i64 0,.int .i64 0,.int .i64 0,.slice none 0 0] 63))=V0 at HS ⊢
 obtain ⟨hx,hz,hB⟩:=HS.out
 have HX:=Aside0.mk (show V0.drew.heap[w.heap.size]?=some (.cells #[.int .i64 x.id,.int .i64 x.n,.int .i64 x.view,.int .i64 x.last,.bool x.works,.int .i64 x.commit,.slice A6 x.log.length c6,.slice A7 n7 c7,.slice A8 n8 c8] 26 (0,0)) from hx)
 have HZ:=Aside0.mk (show V0.drew.heap[w.heap.size+1]?=some (.cells #[.int .i64 0,.int .i64 0,.int .i64 0,.slice none 0 0] 63 (0,0)) from hz)
 have HB:=Aside0.mk (below_drew_any hB)
 clear hx hz hB HS
 go_region_held3 (fun W=>W.cell? ⟨w.heap.size,0,none⟩=some (.int .i64 x.id)∧W.cell? ⟨w.heap.size,3,none⟩=some (.int .i64 x.last)∧W.cell? ⟨w.heap.size,5,none⟩=some (.int .i64 x.commit)∧W.cell? ⟨w.heap.size,6,none⟩=some (.slice A6 x.log.length c6))
  (first | exact ⟨blk_cell HX.out 0,blk_cell HX.out 3,blk_cell HX.out 5,blk_cell HX.out 6⟩ | exact ⟨blk_cell HX3.out 0,blk_cell HX3.out 3,blk_cell HX3.out 5,blk_cell HX3.out 6⟩ | exact ⟨blk_cell (HF.out _ _ _ _) 0,blk_cell (HF.out _ _ _ _) 3,blk_cell (HF.out _ _ _ _) 5,blk_cell (HF.out _ _ _ _) 6⟩ | go_keep)
  (first | (refine x_step_call rfl Tryz.func24 (by kernel_rfl) rfl #[.slice A6 x.log.length c6] rfl (by simp [Act.eval,Act.put]) ?_;refine (HO.out V0.drew HB.out).mono ?_;rintro e w3 ⟨v7,rfl,hR,hb3⟩;obtain ⟨AR,cR,eR⟩:=Kd.R_slice hR;subst eR;have HB3:=Aside0.mk hb3;have HR:=Aside0.mk hR;have HX3:=Aside0.mk ((hb3.block _ (blk_lt HX.out)).trans HX.out);have HZ3:=Aside0.mk ((hb3.block _ (blk_lt HZ.out)).trans HZ.out);have HF:=Aside0.mk (fun u0 u1 u2 u3:Value=>(blk_far (p:=⟨w.heap.size+1,3,none⟩) (blk_far (p:=⟨w.heap.size+1,2,none⟩) (blk_far (p:=⟨w.heap.size+1,1,none⟩) (blk_far (p:=⟨w.heap.size+1,0,none⟩) HX3.out (by simp) u0) (by simp) u1) (by simp) u2) (by simp) u3));have hz0:w3.cell? ⟨w.heap.size+1,0,none⟩=some (.int .i64 0):=blk_cell HZ3.out 0;have hf0:w3.frozen? ⟨w.heap.size+1,0,none⟩=false:=blk_frozen HZ3.out 0;have hz1:w3.cell? ⟨w.heap.size+1,1,none⟩=some (.int .i64 0):=blk_cell HZ3.out 1;have hf1:w3.frozen? ⟨w.heap.size+1,1,none⟩=false:=blk_frozen HZ3.out 1;have hz2:w3.cell? ⟨w.heap.size+1,2,none⟩=some (.int .i64 0):=blk_cell HZ3.out 2;have hf2:w3.frozen? ⟨w.heap.size+1,2,none⟩=false:=blk_frozen HZ3.out 2;have hz3:w3.cell? ⟨w.heap.size+1,3,none⟩=some (.slice none 0 0):=blk_cell HZ3.out 3;have hf3:w3.frozen? ⟨w.heap.size+1,3,none⟩=false:=blk_frozen HZ3.out 3;clear hb3 hR;refine ⟨_,rfl,?_⟩))
 all_goals
  go_wp2
  refine bodyPost_ret (results_cell_row rfl _ _ (w.heap.size+1) 63 #[.int .i64 x.id,.int .i64 x.last,.int .i64 x.commit,.slice AR x.log.length cR] (0,0) _ rfl ?_ Tryz.underlying63 rfl (by kernel_rfl)) rfl ?_
  ·exact blk_put (cs:=#[.int .i64 x.id,.int .i64 x.last,.int .i64 x.commit,.slice none 0 0]) (blk_put (cs:=#[.int .i64 x.id,.int .i64 x.last,.int .i64 0,.slice none 0 0]) (blk_put (cs:=#[.int .i64 x.id,.int .i64 0,.int .i64 0,.slice none 0 0]) (blk_put (cs:=#[.int .i64 0,.int .i64 0,.int .i64 0,.slice none 0 0]) HZ3.out 0 _ rfl) 1 _ rfl) 2 _ rfl) 3 _ rfl
  ·have hge:w.heap.size≤w.heap.size+1:=by omega
   have hb4:Below w.heap.size w w3:=below_step HB.out HB3.out
   exact ⟨_,rfl,Kd.R_mono (Kd.R_far (p:=⟨w.heap.size+1,3,none⟩) (Kd.R_far (p:=⟨w.heap.size+1,2,none⟩) (Kd.R_far (p:=⟨w.heap.size+1,1,none⟩) (Kd.R_far (p:=⟨w.heap.size+1,0,none⟩) (Kd.R_types (Kd.R_lower HR.out HB.out.size) HZ3.out (by decide)) (fun _ hk=>hk.2) _) (fun _ hk=>hk.2) _) (fun _ hk=>hk.2) _) (fun _ hk=>hk.2) _) (fun _ hk=>trivial),below_at (below_at (below_at (below_at hb4 hge) hge) hge) hge⟩
end
end Go.Proofs.YtfpfpckocemmdaaGreat.P
