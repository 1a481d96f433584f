/- Part 33 of the walk. -/
import Derived.Test.YtfpfpckocemmdaaGreatCDoes18
import Derived.Test.YtfpfpckocemmdaaGreatCDoes24
import Derived.Test.YtfpfpckocemmdaaGreatCDoes25
import Derived.Test.YtfpfpckocemmdaaGreatCDoes27
import Derived.Test.YtfpfpckocemmdaaGreatCDoes29
import Derived.Test.YtfpfpckocemmdaaGreatCDoes30
import Derived.Test.YtfpfpckocemmdaaGreatCDoes32
set_option linter.unusedVariables false
set_option linter.unusedSimpArgs false
set_option maxHeartbeats 8000000
set_option maxRecDepth 100000
namespace Go.Proofs.YtfpfpckocemmdaaGreat.P
open Go.RowKit Go.Proofs.YtfpfpckocemmdaaGreatW.PrintWords Go.Proofs.YtfpfpckocemmdaaGreatW.PrintLast Go.Proofs.YtfpfpckocemmdaaGreatW.PrintMore
structure Arg (w:World) (x:Nod) (A6 A7 A8:Option Addr) (c6 c7 c8:Nat):Prop where
 h6:Kd.C Kd.string w A6 x.log.length x.log
 l6:x.log.length≤c6
 h7:Kd.C (Kd.int .i64) w A7 x.acks.length x.acks
 l7:x.acks.length≤c7
 h8:Kd.C k63 w A8 x.votes.length x.votes
 l8:x.votes.length≤c8
 hl:x.log.length < 4398046511104
 ha:x.acks.length < 4398046511104
 hvl:x.votes.length < 4398046511104
 hv:∀ v,v∈x.votes→v.f3.length < 4398046511104∧(Lit.int .i64 v.f0).wf=true
theorem Arg.below {w w1:World} {x:Nod} {A6 A7 A8:Option Addr} {c6 c7 c8:Nat} (h:Arg w x A6 A7 A8 c6 c7 c8) (hb:Below w.heap.size w w1):Arg w1 x A6 A7 A8 c6 c7 c8 :=
 ⟨Kd.C_below h.h6 hb,h.l6,Kd.C_below h.h7 hb,h.l7,Kd.C_below h.h8 hb,h.l8,h.hl,h.ha,h.hvl,h.hv⟩
def Back (w:World) (r:Nod×Int) (e:Ending) (w':World):Prop:=∃ v6 v7 v8 v9,e=.returned (.tuple #[.agg #[.int .i64 r.1.id,.int .i64 r.1.n,.int .i64 r.1.view,.int .i64 r.1.last,.bool r.1.works,.int .i64 r.1.commit,v6,v7,v8],v9,.int .i64 r.2])∧Res w' w.heap.size r.1 v6 v7 v8 v9∧Below w.heap.size w w'
def Back2 (w:World) (r:Nod×Int) (e:Ending) (w':World):Prop:=∃ v6 v7 v8 v9,e=.returned (.tuple #[.agg #[.int .i64 r.1.id,.int .i64 r.1.n,.int .i64 r.1.view,.int .i64 r.1.last,.bool r.1.works,.int .i64 r.1.commit,v6,v7,v8],.int .i64 r.2])∧Res w' w.heap.size r.1 v6 v7 v8 v9∧Below w.heap.size w w'
def okMsg (x:Nod) (m:S28):Bool:=msgB m && decide (m.f2=x.id) && !decide (m.f1=x.id) && decide (m.f1 < x.n)
def stepOf (x:Nod) (m:S28):Nod:=if m.f3≥x.view then (if m.f0=1 then x.opened.prepare m else if m.f0=2 then x.opened.ack m else x.opened.vote m) else x.opened
def handleOf (x:Nod) (m:S28):Nod×Int:=if isB x=true∧okMsg x m=true then (stepOf x m,0) else (zeroNod,1)
def askOf (x:Nod) (s:ByteArray):Nod×Int:=if isB x=true then (if x.opened.leads=true then (if (x.log.length:Int)=60∨(s.size:Int) > 300 then (zeroNod,2) else ((x.opened.logs s).counts.tell,0)) else (zeroNod,220)) else (zeroNod,1)
def lateOf (x:Nod):Nod:=if (x.opened.joins (x.view+1)).begin_.view % (x.opened.joins (x.view+1)).begin_.n=(x.opened.joins (x.view+1)).begin_.id then (x.opened.joins (x.view+1)).begin_ else (x.opened.joins (x.view+1)).begin_.say ((x.opened.joins (x.view+1)).begin_.castTo ((x.opened.joins (x.view+1)).begin_.view % (x.opened.joins (x.view+1)).begin_.n))
def timeoutOf (x:Nod):Nod×Int:=if isB x=true then (if x.view=1000000 then (zeroNod,2) else (lateOf x,0)) else (zeroNod,1)
def restartOf (x:Nod):Nod×Int:=if isB x=true then (x.opened.restart,0) else (zeroNod,1)
theorem msg_kind {m:S28} (h:msgB m=true):m.f0=1∨m.f0=2∨m.f0=3:=by
 unfold msgB at h
 split at h
 ·split at h
  ·exact .inl ‹_›
  ·split at h
   ·exact .inr (.inl ‹_›)
   ·split at h
    ·exact .inr (.inr ‹_›)
    ·cases h
 ·cases h
theorem handle_calls (x:Nod) (m:S28) (A6 A7 A8 A:Option Addr) (c6 c7 c8 c:Nat) (w:World) (h:Arg w x A6 A7 A8 c6 c7 c8) (hm:Kd.C Kd.string w A m.f7.length m.f7) (lm:m.f7.length≤c) :
  Calls Tryz.prog 10 #[.agg #[.int .i64 x.id,.int .i64 x.n,.int .i64 x.view,.int .i64 x.last,.bool x.works,.int .i64 x.commit,.slice A6 x.log.length c6,.slice A7 x.acks.length c7,.slice A8 x.votes.length c8],.agg #[.int .i64 m.f0,.int .i64 m.f1,.int .i64 m.f2,.int .i64 m.f3,.int .i64 m.f4,.int .i64 m.f5,.int .i64 m.f6,.slice A m.f7.length c]] w (Back w (handleOf x m)):=by
 cases his:isB x with
 | false =>
  have he:handleOf x m=(zeroNod,1):=by unfold handleOf;rw [his];rfl
  rw [he]
  exact handle_not x.id x.n x.view x.last x.works x.commit x.log x.acks x.votes x.told A6 A7 A8 c6 c7 c8 w h.h6 h.l6 h.h7 h.l7 h.h8 h.l8 h.hl h.ha h.hvl h.hv m A c his
 | true =>
  cases hb:msgB m with
  | false =>
   have he:handleOf x m=(zeroNod,1):=by unfold handleOf okMsg;rw [hb];simp
   rw [he]
   exact handle_bad1 x.id x.n x.view x.last x.works x.commit x.log x.acks x.votes x.told A6 A7 A8 c6 c7 c8 w h.h6 h.l6 h.h7 h.l7 h.h8 h.l8 h.hl h.ha h.hvl h.hv m A c hm lm his hb
  | true =>
   by_cases ht:m.f2=x.id
   case neg =>
    have he:handleOf x m=(zeroNod,1):=by unfold handleOf okMsg;rw [decide_eq_false ht];simp
    rw [he]
    exact handle_bad2 x.id x.n x.view x.last x.works x.commit x.log x.acks x.votes x.told A6 A7 A8 c6 c7 c8 w h.h6 h.l6 h.h7 h.l7 h.h8 h.l8 h.hl h.ha h.hvl h.hv m A c hm lm his hb ht
   by_cases hf:m.f1=x.id
   case pos =>
    have he:handleOf x m=(zeroNod,1):=by unfold handleOf okMsg;rw [decide_eq_true hf];simp
    rw [he]
    exact handle_bad3 x.id x.n x.view x.last x.works x.commit x.log x.acks x.votes x.told A6 A7 A8 c6 c7 c8 w h.h6 h.l6 h.h7 h.l7 h.h8 h.l8 h.hl h.ha h.hvl h.hv m A c hm lm his hb ht hf
   by_cases hn:m.f1≥x.n
   case pos =>
    have he:handleOf x m=(zeroNod,1):=by unfold handleOf okMsg;rw [decide_eq_false (show ¬ m.f1 < x.n by omega)];simp
    rw [he]
    exact handle_bad4 x.id x.n x.view x.last x.works x.commit x.log x.acks x.votes x.told A6 A7 A8 c6 c7 c8 w h.h6 h.l6 h.h7 h.l7 h.h8 h.l8 h.hl h.ha h.hvl h.hv m A c hm lm his hb ht hf hn
   have hok:okMsg x m=true:=by unfold okMsg;rw [hb,decide_eq_true ht,decide_eq_false hf,decide_eq_true (show m.f1 < x.n by omega)];rfl
   have he:handleOf x m=(stepOf x m,0):=by unfold handleOf;rw [if_pos ⟨his,hok⟩]
   rw [he]
   by_cases hv:m.f3≥x.view
   case neg =>
    have hs:stepOf x m=x.opened:=by unfold stepOf;rw [if_neg hv]
    rw [hs]
    exact handle_old x.id x.n x.view x.last x.works x.commit x.log x.acks x.votes x.told A6 A7 A8 c6 c7 c8 w h.h6 h.l6 h.h7 h.l7 h.h8 h.l8 h.hl h.ha h.hvl h.hv m A c hm lm his hb ht hf hn hv
   obtain ⟨m0,m1,m2,m3,m4,m5,m6,m7⟩:=m
   rcases msg_kind hb with hk | hk | hk
   ·simp only at hk;subst hk
    have hs:stepOf x ⟨1,m1,m2,m3,m4,m5,m6,m7⟩=x.opened.prepare ⟨1,m1,m2,m3,m4,m5,m6,m7⟩:=by unfold stepOf;rw [if_pos hv];rfl
    rw [hs]
    exact handle_prepare x.id x.n x.view x.last x.works x.commit x.log x.acks x.votes x.told A6 A7 A8 c6 c7 c8 w h.h6 h.l6 h.h7 h.l7 h.h8 h.l8 h.hl h.ha h.hvl h.hv m1 m2 m3 m4 m5 m6 m7 A c hm lm his hb ht hf hn hv
   ·simp only at hk;subst hk
    have hs:stepOf x ⟨2,m1,m2,m3,m4,m5,m6,m7⟩=x.opened.ack ⟨2,m1,m2,m3,m4,m5,m6,m7⟩:=by unfold stepOf;rw [if_pos hv];rfl
    rw [hs]
    exact handle_ack x.id x.n x.view x.last x.works x.commit x.log x.acks x.votes x.told A6 A7 A8 c6 c7 c8 w h.h6 h.l6 h.h7 h.l7 h.h8 h.l8 h.hl h.ha h.hvl h.hv m1 m2 m3 m4 m5 m6 m7 A c hm lm his hb ht hf hn hv
   ·simp only at hk;subst hk
    have hs:stepOf x ⟨3,m1,m2,m3,m4,m5,m6,m7⟩=x.opened.vote ⟨3,m1,m2,m3,m4,m5,m6,m7⟩:=by unfold stepOf;rw [if_pos hv];rfl
    rw [hs]
    exact handle_vote x.id x.n x.view x.last x.works x.commit x.log x.acks x.votes x.told A6 A7 A8 c6 c7 c8 w h.h6 h.l6 h.h7 h.l7 h.h8 h.l8 h.hl h.ha h.hvl h.hv m1 m2 m3 m4 m5 m6 m7 A c hm lm his hb ht hf hn hv
theorem ask_calls (x:Nod) (s:ByteArray) (A6 A7 A8:Option Addr) (c6 c7 c8:Nat) (w:World) (h:Arg w x A6 A7 A8 c6 c7 c8) :
  Calls Tryz.prog 6 #[.agg #[.int .i64 x.id,.int .i64 x.n,.int .i64 x.view,.int .i64 x.last,.bool x.works,.int .i64 x.commit,.slice A6 x.log.length c6,.slice A7 x.acks.length c7,.slice A8 x.votes.length c8],.string s] w (Back w (askOf x s)):=by
 cases his:isB x with
 | false =>
  have he:askOf x s=(zeroNod,1):=by unfold askOf;rw [his];rfl
  rw [he]
  exact ask_not x.id x.n x.view x.last x.works x.commit x.log x.acks x.votes x.told A6 A7 A8 c6 c7 c8 w h.h6 h.l6 h.h7 h.l7 h.h8 h.l8 h.hl h.ha h.hvl h.hv s his
 | true =>
  cases hld:x.opened.leads with
  | false =>
   have he:askOf x s=(zeroNod,220):=by unfold askOf;rw [his,hld];rfl
   rw [he]
   exact ask_view x.id x.n x.view x.last x.works x.commit x.log x.acks x.votes x.told A6 A7 A8 c6 c7 c8 w h.h6 h.l6 h.h7 h.l7 h.h8 h.l8 h.hl h.ha h.hvl h.hv s his hld
  | true =>
   by_cases hf:(x.log.length:Int)=60
   ·have he:askOf x s=(zeroNod,2):=by unfold askOf;rw [his,hld,if_pos rfl,if_pos rfl,if_pos (.inl hf)]
    rw [he]
    exact ask_full x.id x.n x.view x.last x.works x.commit x.log x.acks x.votes x.told A6 A7 A8 c6 c7 c8 w h.h6 h.l6 h.h7 h.l7 h.h8 h.l8 h.hl h.ha h.hvl h.hv s his hld hf
   ·by_cases hs:(s.size:Int) > 300
    ·have he:askOf x s=(zeroNod,2):=by unfold askOf;rw [his,hld,if_pos rfl,if_pos rfl,if_pos (.inr hs)]
     rw [he]
     exact ask_long x.id x.n x.view x.last x.works x.commit x.log x.acks x.votes x.told A6 A7 A8 c6 c7 c8 w h.h6 h.l6 h.h7 h.l7 h.h8 h.l8 h.hl h.ha h.hvl h.hv s his hld hf hs
    ·have he:askOf x s=((x.opened.logs s).counts.tell,0):=by unfold askOf;rw [his,hld,if_pos rfl,if_pos rfl,if_neg (by rintro (h | h);exact hf h;exact hs h)]
     rw [he]
     exact ask_does x.id x.n x.view x.last x.works x.commit x.log x.acks x.votes x.told A6 A7 A8 c6 c7 c8 w h.h6 h.l6 h.h7 h.l7 h.h8 h.l8 h.hl h.ha h.hvl h.hv s his hld hf hs
theorem timeout_calls (x:Nod) (A6 A7 A8:Option Addr) (c6 c7 c8:Nat) (w:World) (h:Arg w x A6 A7 A8 c6 c7 c8) :
  Calls Tryz.prog 8 #[.agg #[.int .i64 x.id,.int .i64 x.n,.int .i64 x.view,.int .i64 x.last,.bool x.works,.int .i64 x.commit,.slice A6 x.log.length c6,.slice A7 x.acks.length c7,.slice A8 x.votes.length c8]] w (Back w (timeoutOf x)):=by
 cases his:isB x with
 | false =>
  have he:timeoutOf x=(zeroNod,1):=by unfold timeoutOf;rw [his];rfl
  rw [he]
  exact timeout_not x.id x.n x.view x.last x.works x.commit x.log x.acks x.votes x.told A6 A7 A8 c6 c7 c8 w h.h6 h.l6 h.h7 h.l7 h.h8 h.l8 h.hl h.ha h.hvl h.hv his
 | true =>
  by_cases hv:x.view=1000000
  ·have he:timeoutOf x=(zeroNod,2):=by unfold timeoutOf;rw [his,if_pos rfl,if_pos hv]
   rw [he]
   exact timeout_last x.id x.n x.view x.last x.works x.commit x.log x.acks x.votes x.told A6 A7 A8 c6 c7 c8 w h.h6 h.l6 h.h7 h.l7 h.h8 h.l8 h.hl h.ha h.hvl h.hv his hv
  ·have he:timeoutOf x=(lateOf x,0):=by unfold timeoutOf;rw [his,if_pos rfl,if_neg hv]
   rw [he]
   by_cases hp:(x.opened.joins (x.view+1)).begin_.view % (x.opened.joins (x.view+1)).begin_.n=(x.opened.joins (x.view+1)).begin_.id
   ·have hl:lateOf x=_:=if_pos hp
    rw [hl]
    exact timeout_prim x.id x.n x.view x.last x.works x.commit x.log x.acks x.votes x.told A6 A7 A8 c6 c7 c8 w h.h6 h.l6 h.h7 h.l7 h.h8 h.l8 h.hl h.ha h.hvl h.hv his hv hp
   ·have hl:lateOf x=_:=if_neg hp
    rw [hl]
    exact timeout_cast x.id x.n x.view x.last x.works x.commit x.log x.acks x.votes x.told A6 A7 A8 c6 c7 c8 w h.h6 h.l6 h.h7 h.l7 h.h8 h.l8 h.hl h.ha h.hvl h.hv his hv hp
theorem restart_calls (x:Nod) (A6 A7 A8:Option Addr) (c6 c7 c8:Nat) (w:World) (h:Arg w x A6 A7 A8 c6 c7 c8) :
  Calls Tryz.prog 12 #[.agg #[.int .i64 x.id,.int .i64 x.n,.int .i64 x.view,.int .i64 x.last,.bool x.works,.int .i64 x.commit,.slice A6 x.log.length c6,.slice A7 x.acks.length c7,.slice A8 x.votes.length c8]] w (Back2 w (restartOf x)):=by
 cases his:isB x with
 | false =>
  have he:restartOf x=(zeroNod,1):=by unfold restartOf;rw [his];rfl
  rw [he]
  exact restart_not x.id x.n x.view x.last x.works x.commit x.log x.acks x.votes x.told A6 A7 A8 c6 c7 c8 w h.h6 h.l6 h.h7 h.l7 h.h8 h.l8 h.hl h.ha h.hvl h.hv his
 | true =>
  have he:restartOf x=(x.opened.restart,0):=by unfold restartOf;rw [his,if_pos rfl]
  rw [he]
  cases hw:x.works with
  | true =>
   have hs:x.opened.restart=x.opened.clear.counts:=by unfold Nod.restart;rw [if_pos (show x.opened.works=true from hw)]
   rw [hs,← hw]
   exact restart_works x.id x.n x.view x.last x.works x.commit x.log x.acks x.votes x.told A6 A7 A8 c6 c7 c8 w h.h6 h.l6 h.h7 h.l7 h.h8 h.l8 h.hl h.ha h.hvl h.hv his hw
  | false =>
   have hs:x.opened.restart=x.opened.waits:=by unfold Nod.restart;rw [if_neg (by rw [show x.opened.works=false from hw];simp)]
   rw [hs,← hw]
   exact restart_waits x.id x.n x.view x.last x.works x.commit x.log x.acks x.votes x.told A6 A7 A8 c6 c7 c8 w h.h6 h.l6 h.h7 h.l7 h.h8 h.l8 h.hl h.ha h.hvl h.hv his hw
theorem Res.arg {w:World} {base:Nat} {x:Nod} {v6 v7 v8 v9:Value} (h:Res w base x v6 v7 v8 v9) (hl:x.log.length < 4398046511104) (ha:x.acks.length < 4398046511104) (hvl:x.votes.length < 4398046511104) (hv:∀ v,v∈x.votes→v.f3.length < 4398046511104∧(Lit.int .i64 v.f0).wf=true) :
  ∃ A6 c6 A7 c7 A8 c8 A9 c9,v6=.slice A6 x.log.length c6∧v7=.slice A7 x.acks.length c7∧v8=.slice A8 x.votes.length c8∧v9=.slice A9 x.told.length c9∧Arg w x A6 A7 A8 c6 c7 c8∧x.told.length≤c9∧Kd.C k28 w A9 x.told.length x.told:=by
 obtain ⟨P6,P7,P8,P9,h6,h7,h8,h9,a6,a7,a8⟩:=h
 obtain ⟨A6,c6,rfl,e6,k6⟩:=Kd.R_reads h6
 obtain ⟨A7,c7,rfl,e7,k7⟩:=Kd.R_reads h7
 obtain ⟨A8,c8,rfl,e8,k8⟩:=Kd.S_reads h8
 obtain ⟨A9,c9,rfl,e9,k9⟩:=Kd.S_reads h9
 exact ⟨A6,c6,A7,c7,A8,c8,A9,c9,rfl,rfl,rfl,rfl,⟨k6,e6,k7,e7,k8,e8,hl,ha,hvl,hv⟩,e9,k9⟩
theorem Res.arg2 {w:World} {base:Nat} {x:Nod} {v6 v7 v8 v9:Value} (h:Res w base x v6 v7 v8 v9) (hl:x.log.length < 4398046511104) (ha:x.acks.length < 4398046511104) (hvl:x.votes.length < 4398046511104) (hv:∀ v,v∈x.votes→v.f3.length < 4398046511104∧(Lit.int .i64 v.f0).wf=true) :
  ∃ A6 c6 A7 c7 A8 c8 A9 c9,v6=.slice A6 x.log.length c6∧v7=.slice A7 x.acks.length c7∧v8=.slice A8 x.votes.length c8∧v9=.slice A9 x.told.length c9∧x.told.length≤c9 ∧
   ∀ W2:World,(∀ k,base≤k→k < w.heap.size→W2.heap[k]?=w.heap[k]?)→Arg W2 x A6 A7 A8 c6 c7 c8∧Kd.C k28 W2 A9 x.told.length x.told:=by
 obtain ⟨P6,P7,P8,P9,h6,h7,h8,h9,a6,a7,a8⟩:=h
 obtain ⟨A6,c6,rfl,e6,k6⟩:=Kd.R_reads h6
 obtain ⟨A7,c7,rfl,e7,k7⟩:=Kd.R_reads h7
 obtain ⟨A8,c8,rfl,e8,k8⟩:=Kd.S_reads h8
 obtain ⟨A9,c9,rfl,e9,k9⟩:=Kd.S_reads h9
 refine ⟨A6,c6,A7,c7,A8,c8,A9,c9,rfl,rfl,rfl,rfl,e9,fun W2 hm=>?_⟩
 have g6:=Kd.R_reads' (Kd.R_step (Kd.R_bound h6) (fun k hk hl=>hm k hk.2.1 hl))
 have g7:=Kd.R_reads' (Kd.R_step (Kd.R_bound h7) (fun k hk hl=>hm k hk.2.1 hl))
 have g8:=Kd.S_reads' (Kd.S_step (Kd.S_bound h8) (fun k hk hl=>hm k hk.2.1 hl))
 have g9:=Kd.S_reads' (Kd.S_step (Kd.S_bound h9) (fun k hk hl=>hm k hk.2.1 hl))
 exact ⟨⟨g6.2.2,e6,g7.2.2,e7,g8.2.2,e8,hl,ha,hvl,hv⟩,g9.2.2⟩
theorem put9 {w:World} {g:Nat} {b0 b1 b2 b3 b4 b5 b6 b7 b8:Value} {t:TypeId} (h:w.heap[g]?=some (.cells #[b0,b1,b2,b3,b4,b5,b6,b7,b8] t (0,0))) (a0 a1 a2 a3 a4 a5 a6 a7 a8:Value) :
  (((((((((w.setCell ⟨g,0,none⟩ a0).setCell ⟨g,1,none⟩ a1).setCell ⟨g,2,none⟩ a2).setCell ⟨g,3,none⟩ a3).setCell ⟨g,4,none⟩ a4).setCell ⟨g,5,none⟩ a5).setCell ⟨g,6,none⟩ a6).setCell ⟨g,7,none⟩ a7).setCell ⟨g,8,none⟩ a8).heap[g]?=some (.cells #[a0,a1,a2,a3,a4,a5,a6,a7,a8] t (0,0)) ∧
  ∀ k,k≠g→(((((((((w.setCell ⟨g,0,none⟩ a0).setCell ⟨g,1,none⟩ a1).setCell ⟨g,2,none⟩ a2).setCell ⟨g,3,none⟩ a3).setCell ⟨g,4,none⟩ a4).setCell ⟨g,5,none⟩ a5).setCell ⟨g,6,none⟩ a6).setCell ⟨g,7,none⟩ a7).setCell ⟨g,8,none⟩ a8).heap[k]?=w.heap[k]?:=by
 have p0:=blk_put (cs':=#[a0,b1,b2,b3,b4,b5,b6,b7,b8]) h 0 a0 rfl
 have p1:=blk_put (cs':=#[a0,a1,b2,b3,b4,b5,b6,b7,b8]) p0 1 a1 rfl
 have p2:=blk_put (cs':=#[a0,a1,a2,b3,b4,b5,b6,b7,b8]) p1 2 a2 rfl
 have p3:=blk_put (cs':=#[a0,a1,a2,a3,b4,b5,b6,b7,b8]) p2 3 a3 rfl
 have p4:=blk_put (cs':=#[a0,a1,a2,a3,a4,b5,b6,b7,b8]) p3 4 a4 rfl
 have p5:=blk_put (cs':=#[a0,a1,a2,a3,a4,a5,b6,b7,b8]) p4 5 a5 rfl
 have p6:=blk_put (cs':=#[a0,a1,a2,a3,a4,a5,a6,b7,b8]) p5 6 a6 rfl
 have p7:=blk_put (cs':=#[a0,a1,a2,a3,a4,a5,a6,a7,b8]) p6 7 a7 rfl
 have p8:=blk_put (cs':=#[a0,a1,a2,a3,a4,a5,a6,a7,a8]) p7 8 a8 rfl
 refine ⟨p8,fun k hk=>?_⟩
 have q:=fun (W:World) (v:Value) (j:Nat)=>Below.heap_setCell W ⟨g,j,none⟩ v k hk
 rw [q,q,q,q,q,q,q,q,q]
theorem put9_below {B:Nat} {w0 w:World} {g:Nat} (h:Below B w0 w) (hg:B≤g) (a0 a1 a2 a3 a4 a5 a6 a7 a8:Value):Below B w0 (((((((((w.setCell ⟨g,0,none⟩ a0).setCell ⟨g,1,none⟩ a1).setCell ⟨g,2,none⟩ a2).setCell ⟨g,3,none⟩ a3).setCell ⟨g,4,none⟩ a4).setCell ⟨g,5,none⟩ a5).setCell ⟨g,6,none⟩ a6).setCell ⟨g,7,none⟩ a7).setCell ⟨g,8,none⟩ a8):=by
 have k0:=below_at (j:=0) (v:=a0) h hg
 have k1:=below_at (j:=1) (v:=a1) k0 hg
 have k2:=below_at (j:=2) (v:=a2) k1 hg
 have k3:=below_at (j:=3) (v:=a3) k2 hg
 have k4:=below_at (j:=4) (v:=a4) k3 hg
 have k5:=below_at (j:=5) (v:=a5) k4 hg
 have k6:=below_at (j:=6) (v:=a6) k5 hg
 have k7:=below_at (j:=7) (v:=a7) k6 hg
 have k8:=below_at (j:=8) (v:=a8) k7 hg
 exact k8
end Go.Proofs.YtfpfpckocemmdaaGreat.P
