/- Part 10 of the walk. -/
import Derived.Test.YtfpfpckocemmdaaGreatCDoes09
set_option linter.unusedVariables false
set_option linter.unusedSimpArgs false
set_option maxHeartbeats 8000000
set_option maxRecDepth 100000
namespace Go.Proofs.YtfpfpckocemmdaaGreat.P
open Go.RowKit Go.Proofs.YtfpfpckocemmdaaGreatW.PrintWords Go.Proofs.YtfpfpckocemmdaaGreatW.PrintLast Go.Proofs.YtfpfpckocemmdaaGreatW.PrintMore
section
attribute [local go_sem] max2_int min2_int max_two min_two max_three min_three max_four min_four   -- for this text's walks alone
def quorum_Enough.froms (l:List S63):List Int:=l.foldl (fun a v=>if a.contains v.f0 then a else v.f0::a) []
theorem quorum_Enough.froms_append (l:List S63) (v:S63):quorum_Enough.froms (l++[v])=if (quorum_Enough.froms l).contains v.f0 then quorum_Enough.froms l else v.f0::quorum_Enough.froms l:=by simp [quorum_Enough.froms]
def quorum_Enough.Inv (D:DataW Unit) (ks:List Int):Prop:=Maps.size D=ks.length∧∀ c:Int,Maps.has D (.int .i64 c)=ks.contains c
theorem quorum_Enough.inv_put {w:World} {b n:Nat} {D:DataW Unit} {ks:List Int} (ho:w.ownsMap Tryz.prog 3 (plainElem Tryz.prog 4) b n D) (h:quorum_Enough.Inv D ks) (c:Int) (d:DataW Unit):quorum_Enough.Inv (D.put (.int .i64 c) d) (if ks.contains c then ks else c::ks):=by
 have hk:WideAt.IsKeyLit (.int .i64 c):=trivial
 refine ⟨?_,fun c'=>?_⟩
 ·rw [Maps.size_put (ho.tidy (Maps.int_keyed Tryz.underlying3)),h.1,h.2 c]
  split<;>simp
 ·by_cases he:c'=c
  ·subst he
   rw [Maps.has_put_same ho.isMap hk]
   split
   ·rename_i h1;exact h1.symm
   ·simp
  ·rw [Maps.has_put_other (by simpa using he),h.2 c']
   split
   ·rfl
   ·simp [he]
def quorum_Enough.f (l0:List S63) (a1:Int):Option Bool:=if a1 < 1 then some false else if l0.all (fun v=>(Lit.int .i64 v.f0).wf)=true∧l0.length < 4398046511104∧a1≤9223372036854775807 then some (decide (a1 / 2+1≤((quorum_Enough.froms l0).length:Int))) else none
theorem quorum_Enough.maj (n:Int) (h0:1≤n) (hn:n≤9223372036854775807) (w:World) :
  Calls Tryz.prog 89 #[.int .i64 n] w fun e w'=>e=.returned (.int .i64 (n / 2+1))∧Drawn0 w w':=by
 have c2b0:decide (n < 1)=false:=decide_eq_false (by omega)
 have hw:IntKind.i64.wrap (IntKind.i64.wrap (Int.tdiv n 2)+1)=n / 2+1:=by
  rw [Int.tdiv_eq_ediv_of_nonneg (by omega),IntKind.wrap_i64,IntKind.wrap_i64]
  omega
 go_enter Tryz.func89,Tryz.ntmps89
 go_wp2
 go_ret
 refine ⟨?_,by repeat ((exact Drawn0.refl _))⟩
 simp [hw]
theorem quorum_Enough.calls (A0:Option Addr) (c0:Nat) (l0:List S63) (a1:Int) (r:Bool) (w:World) (hr0:Kd.C k63 w A0 l0.length l0) (hc0:l0.length≤c0) (h:quorum_Enough.f l0 a1=some r) :
  Calls Tryz.prog 73 #[.slice A0 l0.length c0,.int .i64 a1] w fun e w'=>e=.returned (.bool r)∧Below w.heap.size w w':=by
 have hu63:=Tryz.underlying63
 have hu82:=Tryz.underlying82
 have HR:=sd hr0
 have HC:=sd hc0
 clear hr0 hc0
 unfold quorum_Enough.f at h
 by_cases h0:a1 < 1
 ·rw [if_pos h0] at h
  obtain rfl:=Option.some.inj h
  have hb:decide (a1 < 1)=true:=decide_eq_true h0
  go_enter Tryz.func73,Tryz.ntmps73
  go_wp2
  go_ret
  exact ⟨rfl,Below.refl _ _⟩
 rw [if_neg h0] at h
 split at h
 case isFalse=>cases h
 rename_i hl
 obtain ⟨hwf,hl,ha1⟩:=hl
 have hr:=Option.some.inj h
 clear h
 have HR1:=sd hr
 have HWF:=sd hwf
 have HL:=sd hl
 clear hr hwf hl
 have hb:decide (a1 < 1)=false:=decide_eq_false h0
 have hmk:∀ W:World,(Instr.makeMap 82 none).run Tryz.prog W=.ok (.map (some W.heap.size)) (W.alloc (.map #[] 0)):=fun _=>rfl
 have HM:=sd (quorum_Enough.maj a1 (by omega) ha1)
 have h01:=sd h0
 have ha11:=sd ha1
 clear h0 ha1
 go_enter Tryz.func73,Tryz.ntmps73
 go_wp2
 go_loopg [13] l0.length (fun kq v13 w'=>∃ (i:Nat) (D:DataW Unit),v13=.int .i64 (i:Int)∧Aside0 (kq=l0.length - i∧i≤l0.length)∧Aside0 (w'.ownsMap Tryz.prog 3 (plainElem Tryz.prog 4) w.heap.size i D)∧Aside0 (quorum_Enough.Inv D (quorum_Enough.froms (l0.take i)))∧Aside0 (Below w.heap.size w w'))
 case atStart =>
  refine ⟨0,.map [],rfl,⟨by simp,by omega⟩,⟨World.ownsMap_made w _ _ _⟩,⟨by rfl,fun c=>by rfl⟩,⟨below_alloc (Below.refl _ _) _⟩⟩
 case round =>
  obtain ⟨i,D,rfl,hi,HO,HI,HB⟩:=hrel
  by_cases hlt:i < l0.length
  ·have hb1:decide ((i:Int) < (l0.length:Int))=true:=decide_eq_true (by omega)
   have p1:(0:Int)≤(i:Int):=by omega
   have q1:(i:Int) < (l0.length:Int):=by omega
   obtain ⟨ad,A3,c3,rfl,hx0,hx1,hx2,hx3,hl3,hi3⟩:=at_T63 HR.out (i:Int) p1 q1
   simp only [Int.toNat_natCast] at hx0 hx1 hx2 hx3
   replace hx0:=(HB.out.cell (World.block_lt_of_cell? w _ hx0)).trans hx0
   replace hx1:=(HB.out.cell (World.block_lt_of_cell? w _ hx1)).trans hx1
   replace hx2:=(HB.out.cell (World.block_lt_of_cell? w _ hx2)).trans hx2
   replace hx3:=(HB.out.cell (World.block_lt_of_cell? w _ hx3)).trans hx3
   have hwf:(Lit.int .i64 (rd_T63 l0 (i:Int)).f0).wf=true:=by
    have h1:=List.all_eq_true.1 HWF.out l0[i] (List.getElem_mem hlt)
    simpa [rd_T63,List.getD_eq_getElem?_getD,List.getElem?_eq_getElem hlt] using h1
   have HT:l0.take (i+1)=l0.take i++[rd_T63 l0 (i:Int)]:=by
    rw [List.take_succ_eq_append_getElem hlt]
    simp [rd_T63,List.getD_eq_getElem?_getD,List.getElem?_eq_getElem hlt]
   have HT1:=sd HT
   clear HT
   replace p1:=eq_true p1
   replace q1:=eq_true q1
   generalize hv:rd_T63 l0 (i:Int)=v at *
   clear hv
   have HI2:=sd (quorum_Enough.inv_put HO.out HI.out v.f0 (.lit (.bool true)))
   have hkey:keyOf Tryz.prog 3 (.int .i64 v.f0)=some (.int .i64 v.f0):=Maps.keyOf_int_mk Tryz.underlying3 hwf
   go_wp2_with ((at_mapUpdate;refine wpList_mapUpdate_own (H:=Unit) _ rfl _ _ _ 82 rfl 3 4 (Maps.int_keyed Tryz.underlying3) Tryz.underlying82 (plainElem Tryz.prog 4) w.heap.size i D rfl ?own ?room _ _ (.int .i64 v.f0) rfl rfl hkey (.lit (.bool true)) [] (plainElem_bool Tryz.underlying4 true) ?_;(case own=>exact HO.out.alloc _);(case room=>have:=HL.out;simp [maxLen];omega);intro w2 ho2 hg2;have HO2:=sd ho2;have HG2:=sd hg2;clear ho2 hg2))
   go_roundg (l0.length - (i+1))
   case measure=>have:=hi.out.1;omega
   case rel =>
    have hw:wrap64 ((i:Int)+1)=((i+1:Nat):Int):=by have:=HL.out;unfold wrap64;omega
    refine ⟨i+1,D.put (.int .i64 v.f0) (.lit (.bool true)),by rw [hw],⟨by have:=hi.out;omega,by omega⟩,HO2,⟨?_⟩,⟨?_⟩⟩
    ·rw [HT1.out,quorum_Enough.froms_append]
     exact HI2.out
    ·exact Below.grown (below_alloc HB.out _) HG2.out (by have:=HO.out.lt;have:=HB.out;simp;omega) (fun k hk=>by injection hk with hk;omega)
  ·have hb1:decide ((i:Int) < (l0.length:Int))=false:=decide_eq_false (by omega)
   have hie:i=l0.length:=by have:=hi.out;omega
   subst hie
   have hlen:=HO.out.len hu82 3
   have HI1:=HI.out
   rw [List.take_length] at HI1
   have hsz:Maps.size D=(quorum_Enough.froms l0).length:=HI1.1
   rw [hsz] at hlen
   have HI3:=sd HI1
   clear HI1 hsz HI
   go_wp2_with ((go_at_call 89;refine (HM.out _).mono ?_;rintro e w' ⟨rfl,⟨nd,rfl⟩⟩))
   go_ret
   exact ⟨by rw [← HR1.out];rfl,pw_below_drewN HB.out _⟩
def quorum_vote_over.f (a0_0:Int) (a0_1:Int) (a0_2:Int) (l0_3:List ByteArray) (a1_0:Int) (a1_1:Int) (a1_2:Int) (l1_3:List ByteArray):Option (Bool):=if a0_1 > a1_1 then (some true) else (if a0_1=a1_1 then (some (decide ((l0_3.length:Int) > (l1_3.length:Int)))) else (some false))
theorem quorum_vote_over.calls (a0_0:Int) (a0_1:Int) (a0_2:Int) (A0_3:Option Addr) (c0_3:Nat) (l0_3:List ByteArray) (a1_0:Int) (a1_1:Int) (a1_2:Int) (A1_3:Option Addr) (c1_3:Nat) (l1_3:List ByteArray) (r:Bool) (w:World) (hr0_3:Kd.C Kd.string w A0_3 l0_3.length l0_3) (hc0_3:l0_3.length≤c0_3) (hr1_3:Kd.C Kd.string w A1_3 l1_3.length l1_3) (hc1_3:l1_3.length≤c1_3) (h:quorum_vote_over.f a0_0 a0_1 a0_2 l0_3 a1_0 a1_1 a1_2 l1_3=some r) :
  Calls Tryz.prog 91 #[.agg #[a0_0,a0_1,a0_2,.slice A0_3 l0_3.length c0_3],.agg #[a1_0,a1_1,a1_2,.slice A1_3 l1_3.length c1_3]] w fun e w'=>e=.returned r∧Below w.heap.size w w':=by
 have hu95:=Tryz.underlying95
 have HR0_3:=sd hr0_3
 have HC0_3:=sd hc0_3
 clear hr0_3 hc0_3
 have HR1_3:=sd hr1_3
 have HC1_3:=sd hc1_3
 clear hr1_3 hc1_3
 have HB:=sd (Below.refl w.heap.size w)
 have H:(if a0_1 > a1_1 then (some true) else (if a0_1=a1_1 then (some (decide ((l0_3.length:Int) > (l1_3.length:Int)))) else (some false)))=some r:=h
 clear h
 by_cases c3:a0_1 > a1_1
 ·rw [if_pos c3] at H
  have c3b0:decide (a1_1 < a0_1)=true:=decide_eq_true c3
  clear c3
  obtain rfl:=Option.some.inj H
  go_enter Tryz.func91,Tryz.ntmps91
  go_wp2_with (first | ((with_reducible refine gate_dst (N:=2) rfl ?_);(try (refine gate_guard (by rfl) ?_;dsimp only));refine box_event ?hg (N:=2) ?hd (cs:=#[a0_0,a0_1,a0_2,.slice A0_3 l0_3.length c0_3]) (t:=95) ?hr ?_;(case hd=>rfl);(case hg=>rfl);(case hr=>(go_simp;done));intro gb444 hg w4 hbox hb;have BK444:=sd (hbox);have GW444:=sd ((by rw [hg];exact (below_size HB.out):w.heap.size≤gb444));have GE444:=sd ((by rw [hg];exact (below_size HB.out):w.heap.size≤gb444));replace HB:=sd (below_step HB.out hb);clear hb hbox hg) | ((with_reducible refine gate_dst (N:=3) rfl ?_);(try (refine gate_guard (by rfl) ?_;dsimp only));refine box_event ?hg (N:=3) ?hd (cs:=#[a1_0,a1_1,a1_2,.slice A1_3 l1_3.length c1_3]) (t:=95) ?hr ?_;(case hd=>rfl);(case hg=>rfl);(case hr=>(go_simp;done));intro gb445 hg w5 hbox hb;have BK445:=sd (hbox);have GW445:=sd ((by rw [hg];exact (below_size HB.out):w.heap.size≤gb445));have GE445:=sd ((by rw [hg];exact (below_size HB.out):w.heap.size≤gb445));replace HB:=sd (below_step HB.out hb);have NB444_445:=sd ((by rw [hg];exact Nat.ne_of_lt (blk_lt BK444.out):gb444≠gb445));have NB445_444:=sd ((by rw [hg];exact Nat.ne_of_gt (blk_lt BK444.out):gb445≠gb444));replace BK444:=sd (blk_below BK444.out hb);clear hb hbox hg;have hnb6:=NB444_445.out;have hnc6:=NB445_444.out;obtain ⟨hcz7_0,hcz7_1,hcz7_2,hcz7_3⟩:=cells4 BK444.out;have hfz7:=fr_of BK444.out;obtain ⟨hcz8_0,hcz8_1,hcz8_2,hcz8_3⟩:=cells4 BK445.out;have hfz8:=fr_of BK445.out))
  go_ret
  exact ⟨by rfl,HB.out⟩
 ·rw [if_neg c3] at H
  have c3b0:decide (a1_1 < a0_1)=false:=decide_eq_false c3
  clear c3
  by_cases c9:a0_1=a1_1
  ·rw [if_pos c9] at H
   have c9b0:(a0_1==a1_1)=true:=beq_iff_eq.mpr c9
   have c9b1:(a0_1 != a1_1)=false:=bne_eq_false_iff_eq.mpr c9
   clear c9
   obtain rfl:=Option.some.inj H
   go_enter Tryz.func91,Tryz.ntmps91
   go_wp2_with (first | ((with_reducible refine gate_dst (N:=2) rfl ?_);(try (refine gate_guard (by rfl) ?_;dsimp only));refine box_event ?hg (N:=2) ?hd (cs:=#[a0_0,a0_1,a0_2,.slice A0_3 l0_3.length c0_3]) (t:=95) ?hr ?_;(case hd=>rfl);(case hg=>rfl);(case hr=>(go_simp;done));intro gb444 hg w10 hbox hb;have BK444:=sd (hbox);have GW444:=sd ((by rw [hg];exact (below_size HB.out):w.heap.size≤gb444));have GE444:=sd ((by rw [hg];exact (below_size HB.out):w.heap.size≤gb444));replace HB:=sd (below_step HB.out hb);clear hb hbox hg) | ((with_reducible refine gate_dst (N:=3) rfl ?_);(try (refine gate_guard (by rfl) ?_;dsimp only));refine box_event ?hg (N:=3) ?hd (cs:=#[a1_0,a1_1,a1_2,.slice A1_3 l1_3.length c1_3]) (t:=95) ?hr ?_;(case hd=>rfl);(case hg=>rfl);(case hr=>(go_simp;done));intro gb445 hg w11 hbox hb;have BK445:=sd (hbox);have GW445:=sd ((by rw [hg];exact (below_size HB.out):w.heap.size≤gb445));have GE445:=sd ((by rw [hg];exact (below_size HB.out):w.heap.size≤gb445));replace HB:=sd (below_step HB.out hb);have NB444_445:=sd ((by rw [hg];exact Nat.ne_of_lt (blk_lt BK444.out):gb444≠gb445));have NB445_444:=sd ((by rw [hg];exact Nat.ne_of_gt (blk_lt BK444.out):gb445≠gb444));replace BK444:=sd (blk_below BK444.out hb);clear hb hbox hg;have hnb12:=NB444_445.out;have hnc12:=NB445_444.out;obtain ⟨hcz13_0,hcz13_1,hcz13_2,hcz13_3⟩:=cells4 BK444.out;have hfz13:=fr_of BK444.out;obtain ⟨hcz14_0,hcz14_1,hcz14_2,hcz14_3⟩:=cells4 BK445.out;have hfz14:=fr_of BK445.out))
   go_ret
   exact ⟨by rfl,HB.out⟩
  ·rw [if_neg c9] at H
   have c9b0:(a0_1==a1_1)=false:=beq_eq_false_iff_ne.mpr c9
   have c9b1:(a0_1 != a1_1)=true:=bne_iff_ne.mpr c9
   obtain rfl:=Option.some.inj H
   go_enter Tryz.func91,Tryz.ntmps91
   go_wp2_with (first | ((with_reducible refine gate_dst (N:=2) rfl ?_);(try (refine gate_guard (by rfl) ?_;dsimp only));refine box_event ?hg (N:=2) ?hd (cs:=#[a0_0,a0_1,a0_2,.slice A0_3 l0_3.length c0_3]) (t:=95) ?hr ?_;(case hd=>rfl);(case hg=>rfl);(case hr=>(go_simp;done));intro gb444 hg w15 hbox hb;have BK444:=sd (hbox);have GW444:=sd ((by rw [hg];exact (below_size HB.out):w.heap.size≤gb444));have GE444:=sd ((by rw [hg];exact (below_size HB.out):w.heap.size≤gb444));replace HB:=sd (below_step HB.out hb);clear hb hbox hg) | ((with_reducible refine gate_dst (N:=3) rfl ?_);(try (refine gate_guard (by rfl) ?_;dsimp only));refine box_event ?hg (N:=3) ?hd (cs:=#[a1_0,a1_1,a1_2,.slice A1_3 l1_3.length c1_3]) (t:=95) ?hr ?_;(case hd=>rfl);(case hg=>rfl);(case hr=>(go_simp;done));intro gb445 hg w16 hbox hb;have BK445:=sd (hbox);have GW445:=sd ((by rw [hg];exact (below_size HB.out):w.heap.size≤gb445));have GE445:=sd ((by rw [hg];exact (below_size HB.out):w.heap.size≤gb445));replace HB:=sd (below_step HB.out hb);have NB444_445:=sd ((by rw [hg];exact Nat.ne_of_lt (blk_lt BK444.out):gb444≠gb445));have NB445_444:=sd ((by rw [hg];exact Nat.ne_of_gt (blk_lt BK444.out):gb445≠gb444));replace BK444:=sd (blk_below BK444.out hb);clear hb hbox hg;have hnb17:=NB444_445.out;have hnc17:=NB445_444.out;obtain ⟨hcz18_0,hcz18_1,hcz18_2,hcz18_3⟩:=cells4 BK444.out;have hfz18:=fr_of BK444.out;obtain ⟨hcz19_0,hcz19_1,hcz19_2,hcz19_3⟩:=cells4 BK445.out;have hfz19:=fr_of BK445.out))
   go_ret
   exact ⟨by rfl,HB.out⟩
def quorum_Best.better (v o:S63):Bool:=if v.f1 > o.f1 then true else if v.f1=o.f1 then decide ((v.f3.length:Int) > (o.f3.length:Int)) else false
theorem quorum_Best.better_of (v o:S63):quorum_vote_over.f v.f0 v.f1 v.f2 v.f3 o.f0 o.f1 o.f2 o.f3=some (quorum_Best.better v o):=by
 unfold quorum_vote_over.f quorum_Best.better
 split
 ·rfl
 ·split<;>rfl
def quorum_Best.best (l:List S63) (b:S63):S63:=l.foldl (fun b v=>if quorum_Best.better v b then v else b) b
theorem quorum_Best.best_append (l:List S63) (v b:S63):quorum_Best.best (l++[v]) b=if quorum_Best.better v (quorum_Best.best l b) then v else quorum_Best.best l b:=by unfold quorum_Best.best;rw [List.foldl_append];rfl
def quorum_Best.f (l0:List S63):Option (Int×Int×Int×List ByteArray×Bool):=match l0 with
 | []=>some (0,0,0,[],false)
 | v::l=>if l.length < 4398046511104∧(quorum_Best.best l v).f3.length < 4398046511104 then some ((quorum_Best.best l v).f0,(quorum_Best.best l v).f1,(quorum_Best.best l v).f2,(quorum_Best.best l v).f3,true) else none
theorem quorum_Best.calls (A0:Option Addr) (c0:Nat) (l0:List S63) (r1:Int) (r2:Int) (r3:Int) (r4:List ByteArray) (r5:Bool) (w:World) (hr0:Kd.C k63 w A0 l0.length l0) (hc0:l0.length≤c0) (h:quorum_Best.f l0=some (r1,r2,r3,r4,r5)) :
  Calls Tryz.prog 74 #[.slice A0 l0.length c0] w fun e w'=>∃ v3_:Value,e=.returned (.tuple #[.agg #[r1,r2,r3,v3_],.bool r5])∧Kd.R Kd.string 9 w' w.heap.size (fun _=>True) v3_ r4∧Below w.heap.size w w':=by
 have hu63:=Tryz.underlying63
 have hu95:=Tryz.underlying95
 have hu24:=Tryz.underlying24
 have HR:=sd hr0
 have HC:=sd hc0
 clear hr0 hc0
 have hcs:l0=[]∨∃ v0 tl,l0=v0::tl:=by cases l0<;>simp
 rcases hcs with hl0 | ⟨v0,tl,hl0⟩
 ·subst hl0
  have h:=Option.some.inj h
  injection h with h1 h
  injection h with h2 h
  injection h with h3 h
  injection h with h4 h5
  subst h1;subst h2;subst h3;subst h4;subst h5
  go_enter Tryz.func74,Tryz.ntmps74
  go_wp2
  refine bodyPost_ret (results_ct rfl _ _ w.heap.size 63 #[.int .i64 0,.int .i64 0,.int .i64 0,.slice none 0 0] (0,0) _ rfl ?_ Tryz.underlying63 rfl (by kernel_rfl)) rfl ?_
  ·exact x_alloc_new _ _
  exact ⟨_,rfl,Kd.R_nil _ _ _ _ _,below_alloc (Below.refl _ _) _⟩
 ·have h':(if tl.length < 4398046511104∧(quorum_Best.best tl v0).f3.length < 4398046511104 then some ((quorum_Best.best tl v0).f0,(quorum_Best.best tl v0).f1,(quorum_Best.best tl v0).f2,(quorum_Best.best tl v0).f3,true) else none)=some (r1,r2,r3,r4,r5):=by rw [hl0] at h;exact h
  clear h
  have h:=h'
  clear h'
  split at h
  case isFalse=>cases h
  rename_i hlim
  have h:=Option.some.inj h
  injection h with h1 h
  injection h with h2 h
  injection h with h3 h
  injection h with h4 h5
  have HQ:=sd (And.intro h1 (And.intro h2 (And.intro h3 (And.intro h4 h5))))
  have HLIM:=sd hlim
  clear h1 h2 h3 h4 h5 hlim
  have HL0:=sd hl0
  have hn0:l0.length=tl.length+1:=by rw [hl0];rfl
  have hb0:decide ((l0.length:Int)=0)=false:=decide_eq_false (by omega)
  have hb0':((l0.length:Int)==0)=false:=by simpa using hb0
  obtain ⟨i0,hi0,hz0,hs0,hbb0⟩:=info_parts info63
  have hcut:=cut_from (P:=Tryz.prog) 24 63 .i64 hu24 hi0 4 hs0 A0 l0.length c0 1 (by omega) (by omega)
  have HD:=sd (Kd.C_drop (c:=c0) (m:=1) HR.out (by omega) HC.out)
  have htl:l0.drop 1=tl:=by rw [hl0];rfl
  rw [htl] at HD
  have HT:=@at_T63 w A0 l0.length l0 HR.out 0 (by omega) (by omega)
  have hrd0:rd_T63 l0 0=v0:=by rw [hl0];rfl
  rw [hrd0] at HT
  obtain ⟨ad,Ab,cb,rfl,hx0,hx1,hx2,hx3,hl3,hi3⟩:=HT
  simp only [show (1:Int).toNat=1 from rfl,show (0:Int).toNat=0 from rfl,Nat.zero_mul,Nat.one_mul] at hcut hx0 hx1 hx2 hx3
  rw [show ad.add 0=ad from rfl] at hx0 hx1 hx2 hx3
  replace hx0:=fun o=>((below_alloc (Below.refl w.heap.size w) o).cell (World.block_lt_of_cell? w _ hx0)).trans hx0
  replace hx1:=fun o=>((below_alloc (Below.refl w.heap.size w) o).cell (World.block_lt_of_cell? w _ hx1)).trans hx1
  replace hx2:=fun o=>((below_alloc (Below.refl w.heap.size w) o).cell (World.block_lt_of_cell? w _ hx2)).trans hx2
  replace hx3:=fun o=>((below_alloc (Below.refl w.heap.size w) o).cell (World.block_lt_of_cell? w _ hx3)).trans hx3
  have hsub:l0.length - 1=tl.length:=by omega
  rw [hsub] at hcut
  change Aside0 (Kd.C k63 w (if c0=1 then some ad else (some ad).map (·.add (1 * 4))) _ _) at HD
  rw [Nat.one_mul] at HD
  generalize (if c0=1 then some ad else (some ad).map (·.add 4))=A1 at hcut HD
  have hc1:tl.length≤c0 - 1:=by have:=HC.out;omega
  generalize c0 - 1=c1 at hcut hc1
  have HC1:=sd hc1
  have HL3:=sd hl3
  have HI3:=sd hi3
  have HN:=sd hn0
  clear hl0 hc1 hl3 hi3 htl hsub hrd0 hi0 hz0 hs0 hbb0
  generalize hn:l0.length=n at *
  generalize hm:tl.length=m at *
  have hp1:(0 < n)=True:=eq_true (by omega)
  have hp2:((0:Int) < (n:Int))=True:=eq_true (by omega)
  have hp3:decide ((0:Int) < (n:Int))=true:=decide_eq_true (by omega)
  have hp4:(n=0)=False:=eq_false (by omega)
  clear hn0
  go_enter Tryz.func74,Tryz.ntmps74
  go_wp2
  go_loopg [19] m (fun kq v19 w'=>∃ (i:Nat) (cur:S63) (Ac:Option Addr) (cc:Nat),v19=.int .i64 (i:Int)∧Aside0 (kq=m - i∧i≤m)∧Aside0 (cur=quorum_Best.best (tl.take i) v0)∧Aside0 (w'.heap[w.heap.size+1]?=some (.cells #[cur.f0,cur.f1,cur.f2,.slice Ac cur.f3.length cc] 95 (0,0)))∧Aside0 (cur.f3.length≤cc)∧Aside0 (Kd.string.C w Ac cur.f3.length cur.f3)∧Aside0 (w'.heap[w.heap.size]?=some (.cells #[.int .i64 0,.int .i64 0,.int .i64 0,.slice none 0 0] 63 (0,0)))∧Aside0 (Below w.heap.size w w'))
  case atStart =>
   refine ⟨0,v0,Ab,cb,rfl,⟨by simp⟩,⟨rfl⟩,⟨?_⟩,HL3,HI3,⟨blk_alloc (x_alloc_new _ _) _⟩,⟨below_alloc (below_alloc (Below.refl _ _) _) _⟩⟩
   have h1:=x_alloc_new (w.alloc (.cells #[.int .i64 0,.int .i64 0,.int .i64 0,.slice none 0 0] 63)) (.cells #[v0.f0,v0.f1,v0.f2,.slice Ab v0.f3.length cb] 95)
   simpa using h1
  case round =>
   obtain ⟨i,cur,Ac,cc,rfl,hi,HCUR,HBK,HLC,HCC,HRES,HB⟩:=hrel
   by_cases hlt:i < m
   ·have hb1:decide ((i:Int) < (m:Int))=true:=decide_eq_true (by omega)
    have p1:(0:Int)≤(i:Int):=by omega
    have q1:(i:Int) < (m:Int):=by omega
    have HDD:=HD.out
    obtain ⟨ad2,A3,c3,rfl,hy0,hy1,hy2,hy3,hly,hiy⟩:=at_T63 HDD (i:Int) p1 q1
    clear HDD
    simp only [Int.toNat_natCast] at hy0 hy1 hy2 hy3
    replace hy0:=(HB.out.cell (World.block_lt_of_cell? w _ hy0)).trans hy0
    replace hy1:=(HB.out.cell (World.block_lt_of_cell? w _ hy1)).trans hy1
    replace hy2:=(HB.out.cell (World.block_lt_of_cell? w _ hy2)).trans hy2
    replace hy3:=(HB.out.cell (World.block_lt_of_cell? w _ hy3)).trans hy3
    have HT:tl.take (i+1)=tl.take i++[rd_T63 tl (i:Int)]:=by
     rw [List.take_succ_eq_append_getElem (by rw [hm];omega)]
     simp [rd_T63,List.getD_eq_getElem?_getD,List.getElem?_eq_getElem (show i < tl.length by rw [hm];omega)]
    have HT1:=sd HT
    clear HT
    replace p1:=eq_true p1
    replace q1:=eq_true q1
    generalize hv:rd_T63 tl (i:Int)=v at *
    clear hv
    have HLY:=sd hly
    have HIY:=sd (Kd.C_below hiy HB.out)
    have HIYW:=sd hiy
    have HCC2:=sd (Kd.C_below HCC.out HB.out)
    clear hly hiy
    have hx0':∀ o,(wr.alloc o).cell? ⟨w.heap.size+1,0,none⟩=some (.int .i64 cur.f0):=fun o=>blk_cell (blk_alloc HBK.out o) 0
    have hx1':∀ o,(wr.alloc o).cell? ⟨w.heap.size+1,1,none⟩=some (.int .i64 cur.f1):=fun o=>blk_cell (blk_alloc HBK.out o) 1
    have hx2':∀ o,(wr.alloc o).cell? ⟨w.heap.size+1,2,none⟩=some (.int .i64 cur.f2):=fun o=>blk_cell (blk_alloc HBK.out o) 2
    have hx3':∀ o,(wr.alloc o).cell? ⟨w.heap.size+1,3,none⟩=some (.slice Ac cur.f3.length cc):=fun o=>blk_cell (blk_alloc HBK.out o) 3
    by_cases hbv:quorum_Best.better v cur=true
    ·have HOV:=sd ((quorum_Best.better_of v cur).trans (by rw [hbv]))
     go_wp2_with ((go_at_call 91;refine (quorum_vote_over.calls v.f0 v.f1 v.f2 _ _ v.f3 cur.f0 cur.f1 cur.f2 _ _ cur.f3 true _ ?s1 ?s2 ?s3 ?s4 HOV.out).mono ?_;(case s1=>exact Kd.C_alloc HIY.out _);(case s2=>exact HLY.out);(case s3=>exact Kd.C_alloc HCC2.out _);(case s4=>exact HLC.out);rintro e w2 ⟨rfl,hb2⟩;have HB2:=sd (below_step (below_alloc HB.out _) hb2);have BK8:=sd ((hb2.block wr.heap.size (by simp)).trans (x_alloc_new wr (.cells #[v.f0,v.f1,v.f2,.slice A3 v.f3.length c3] 63)));have BK6:=sd ((hb2.block (w.heap.size+1) (by have:=blk_lt HBK.out;simp;omega)).trans (blk_alloc HBK.out (.cells #[v.f0,v.f1,v.f2,.slice A3 v.f3.length c3] 63)));have BKR:=sd ((hb2.block w.heap.size (by have:=blk_lt HBK.out;simp;omega)).trans (blk_alloc HRES.out (.cells #[v.f0,v.f1,v.f2,.slice A3 v.f3.length c3] 63)));have hz0:w2.cell? ⟨wr.heap.size,0,none⟩=some (.int .i64 v.f0):=blk_cell BK8.out 0;have hz1:w2.cell? ⟨wr.heap.size,1,none⟩=some (.int .i64 v.f1):=blk_cell BK8.out 1;have hz2:w2.cell? ⟨wr.heap.size,2,none⟩=some (.int .i64 v.f2):=blk_cell BK8.out 2;have hz3:w2.cell? ⟨wr.heap.size,3,none⟩=some (.slice A3 v.f3.length c3):=blk_cell BK8.out 3;have hc0:w2.cell? ⟨w.heap.size+1,0,none⟩=some (.int .i64 cur.f0):=blk_cell BK6.out 0;have hc1:w2.cell? ⟨w.heap.size+1,1,none⟩=some (.int .i64 cur.f1):=blk_cell BK6.out 1;have hc2:w2.cell? ⟨w.heap.size+1,2,none⟩=some (.int .i64 cur.f2):=blk_cell BK6.out 2;have hc3:w2.cell? ⟨w.heap.size+1,3,none⟩=some (.slice Ac cur.f3.length cc):=blk_cell BK6.out 3;have hf0:w2.frozen? ⟨w.heap.size+1,0,none⟩=false:=blk_frozen BK6.out 0;have hf1:w2.frozen? ⟨w.heap.size+1,1,none⟩=false:=blk_frozen BK6.out 1;have hf2:w2.frozen? ⟨w.heap.size+1,2,none⟩=false:=blk_frozen BK6.out 2;have hf3:w2.frozen? ⟨w.heap.size+1,3,none⟩=false:=blk_frozen BK6.out 3;clear hb2))
     go_roundg (m - (i+1))
     case measure=>have:=hi.out.1;omega
     case rel =>
      have hw:wrap64 ((i:Int)+1)=((i+1:Nat):Int):=by have:=HLIM.out.1;unfold wrap64;omega
      refine ⟨i+1,v,A3,c3,by rw [hw],⟨by have:=hi.out;omega,by omega⟩,⟨?_⟩,⟨?_⟩,HLY,HIYW,⟨?_⟩,⟨?_⟩⟩
      ·rw [HT1.out,quorum_Best.best_append,← HCUR.out,if_pos hbv]
      ·refine blk_put (cs:=#[v.f0,v.f1,v.f2,.slice Ac cur.f3.length cc]) ?_ 3 _ rfl
       refine blk_put (cs:=#[v.f0,v.f1,cur.f2,.slice Ac cur.f3.length cc]) ?_ 2 _ rfl
       refine blk_put (cs:=#[v.f0,cur.f1,cur.f2,.slice Ac cur.f3.length cc]) ?_ 1 _ rfl
       exact blk_put (cs:=#[cur.f0,cur.f1,cur.f2,.slice Ac cur.f3.length cc]) BK6.out 0 _ rfl
      ·have hne:w.heap.size≠w.heap.size+1:=by omega
       exact blk_far (blk_far (blk_far (blk_far BKR.out hne _) hne _) hne _) hne _
      ·have hge:w.heap.size≤w.heap.size+1:=by omega
       exact below_set (below_set (below_set (below_set HB2.out hge) hge) hge) hge
    ·have hbv2:quorum_Best.better v cur=false:=by simpa using hbv
     have HOV:=sd ((quorum_Best.better_of v cur).trans (by rw [hbv2]))
     go_wp2_with ((go_at_call 91;refine (quorum_vote_over.calls v.f0 v.f1 v.f2 _ _ v.f3 cur.f0 cur.f1 cur.f2 _ _ cur.f3 false _ ?s1 ?s2 ?s3 ?s4 HOV.out).mono ?_;(case s1=>exact Kd.C_alloc HIY.out _);(case s2=>exact HLY.out);(case s3=>exact Kd.C_alloc HCC2.out _);(case s4=>exact HLC.out);rintro e w2 ⟨rfl,hb2⟩;have HB2:=sd (below_step (below_alloc HB.out _) hb2);have BK8:=sd ((hb2.block wr.heap.size (by simp)).trans (x_alloc_new wr (.cells #[v.f0,v.f1,v.f2,.slice A3 v.f3.length c3] 63)));have BK6:=sd ((hb2.block (w.heap.size+1) (by have:=blk_lt HBK.out;simp;omega)).trans (blk_alloc HBK.out (.cells #[v.f0,v.f1,v.f2,.slice A3 v.f3.length c3] 63)));have BKR:=sd ((hb2.block w.heap.size (by have:=blk_lt HBK.out;simp;omega)).trans (blk_alloc HRES.out (.cells #[v.f0,v.f1,v.f2,.slice A3 v.f3.length c3] 63)));have hz0:w2.cell? ⟨wr.heap.size,0,none⟩=some (.int .i64 v.f0):=blk_cell BK8.out 0;have hz1:w2.cell? ⟨wr.heap.size,1,none⟩=some (.int .i64 v.f1):=blk_cell BK8.out 1;have hz2:w2.cell? ⟨wr.heap.size,2,none⟩=some (.int .i64 v.f2):=blk_cell BK8.out 2;have hz3:w2.cell? ⟨wr.heap.size,3,none⟩=some (.slice A3 v.f3.length c3):=blk_cell BK8.out 3;have hc0:w2.cell? ⟨w.heap.size+1,0,none⟩=some (.int .i64 cur.f0):=blk_cell BK6.out 0;have hc1:w2.cell? ⟨w.heap.size+1,1,none⟩=some (.int .i64 cur.f1):=blk_cell BK6.out 1;have hc2:w2.cell? ⟨w.heap.size+1,2,none⟩=some (.int .i64 cur.f2):=blk_cell BK6.out 2;have hc3:w2.cell? ⟨w.heap.size+1,3,none⟩=some (.slice Ac cur.f3.length cc):=blk_cell BK6.out 3;have hf0:w2.frozen? ⟨w.heap.size+1,0,none⟩=false:=blk_frozen BK6.out 0;have hf1:w2.frozen? ⟨w.heap.size+1,1,none⟩=false:=blk_frozen BK6.out 1;have hf2:w2.frozen? ⟨w.heap.size+1,2,none⟩=false:=blk_frozen BK6.out 2;have hf3:w2.frozen? ⟨w.heap.size+1,3,none⟩=false:=blk_frozen BK6.out 3;clear hb2))
     go_roundg (m - (i+1))
     case measure=>have:=hi.out.1;omega
     case rel =>
      have hw:wrap64 ((i:Int)+1)=((i+1:Nat):Int):=by have:=HLIM.out.1;unfold wrap64;omega
      refine ⟨i+1,cur,Ac,cc,by rw [hw],⟨by have:=hi.out;omega,by omega⟩,⟨?_⟩,BK6,HLC,HCC,BKR,HB2⟩
      rw [HT1.out,quorum_Best.best_append,← HCUR.out,if_neg hbv]
   ·have hb1:decide ((i:Int) < (m:Int))=false:=decide_eq_false (by omega)
    have hie:i=m:=by have:=hi.out;omega
    have HC1:=HCUR.out
    rw [List.take_of_length_le (by rw [hm];omega)] at HC1
    rw [← HC1] at HQ HLIM
    have HCUR1:=sd HC1
    clear HC1
    have hx0':wr.cell? ⟨w.heap.size+1,0,none⟩=some (.int .i64 cur.f0):=blk_cell HBK.out 0
    have hx1':wr.cell? ⟨w.heap.size+1,1,none⟩=some (.int .i64 cur.f1):=blk_cell HBK.out 1
    have hx2':wr.cell? ⟨w.heap.size+1,2,none⟩=some (.int .i64 cur.f2):=blk_cell HBK.out 2
    have hx3':wr.cell? ⟨w.heap.size+1,3,none⟩=some (.slice Ac cur.f3.length cc):=blk_cell HBK.out 3
    have HCC2:=sd (Kd.C_below HCC.out HB.out)
    have HOWN:=sd (show quorum_vote_own.f cur.f0 cur.f1 cur.f2 cur.f3=some (cur.f0,cur.f1,cur.f2,cur.f3) from if_pos HLIM.out.2)
    go_wp2_with ((go_at_call 85;refine (quorum_vote_own.calls cur.f0 cur.f1 cur.f2 _ _ cur.f3 cur.f0 cur.f1 cur.f2 cur.f3 _ ?s1 ?s2 HOWN.out).mono ?_;(case s1=>exact HCC2.out);(case s2=>exact HLC.out);rintro e w2 ⟨v3,rfl,ho,hb2⟩;have HB2:=sd (below_step HB.out hb2);have BKR:=sd ((hb2.block w.heap.size (blk_lt HRES.out)).trans HRES.out);have hc0:w2.cell? ⟨w.heap.size,0,none⟩=some (.int .i64 0):=blk_cell BKR.out 0;have hc1:w2.cell? ⟨w.heap.size,1,none⟩=some (.int .i64 0):=blk_cell BKR.out 1;have hc2:w2.cell? ⟨w.heap.size,2,none⟩=some (.int .i64 0):=blk_cell BKR.out 2;have hc3:w2.cell? ⟨w.heap.size,3,none⟩=some (.slice none 0 0):=blk_cell BKR.out 3;have hf0:w2.frozen? ⟨w.heap.size,0,none⟩=false:=blk_frozen BKR.out 0;have hf1:w2.frozen? ⟨w.heap.size,1,none⟩=false:=blk_frozen BKR.out 1;have hf2:w2.frozen? ⟨w.heap.size,2,none⟩=false:=blk_frozen BKR.out 2;have hf3:w2.frozen? ⟨w.heap.size,3,none⟩=false:=blk_frozen BKR.out 3;obtain ⟨Ao,co,eo⟩:=Kd.R_slice ho;subst eo;have HO:=sd (Kd.R_lower ho (blk_lt HRES.out |> Nat.le_of_lt));clear ho hb2))
    obtain ⟨rfl,rfl,rfl,rfl,rfl⟩:=HQ.out
    refine bodyPost_ret (results_ct rfl _ _ w.heap.size 63 #[cur.f0,cur.f1,cur.f2,.slice Ao cur.f3.length co] (0,0) _ rfl ?_ Tryz.underlying63 rfl (by kernel_rfl)) rfl ?_
    ·refine blk_put (cs:=#[cur.f0,cur.f1,cur.f2,.slice none 0 0]) ?_ 3 _ rfl
     refine blk_put (cs:=#[cur.f0,cur.f1,.int .i64 0,.slice none 0 0]) ?_ 2 _ rfl
     refine blk_put (cs:=#[cur.f0,.int .i64 0,.int .i64 0,.slice none 0 0]) ?_ 1 _ rfl
     exact blk_put (cs:=#[.int .i64 0,.int .i64 0,.int .i64 0,.slice none 0 0]) BKR.out 0 _ rfl
    ·have hge:w.heap.size≤w.heap.size:=Nat.le_refl _
     exact ⟨_,rfl,Kd.R_mono (Kd.R_far (p:=⟨w.heap.size,3,none⟩) (Kd.R_far (p:=⟨w.heap.size,2,none⟩) (Kd.R_far (p:=⟨w.heap.size,1,none⟩) (Kd.R_far (p:=⟨w.heap.size,0,none⟩) (Kd.R_types HO.out BKR.out (by decide)) (fun _ hk=>hk.2) _) (fun _ hk=>hk.2) _) (fun _ hk=>hk.2) _) (fun _ hk=>hk.2) _) (fun _ hk=>trivial),below_set (below_set (below_set (below_set HB2.out hge) hge) hge) hge⟩
def msg_Cast.f (a0:Int) (a1:Int) (a2_0:Int) (a2_1:Int) (a2_2:Int) (l2_3:List ByteArray):Option (Int×Int×Int×Int×Int×Int×Int×List ByteArray):=(slices_Clone_string_string.f l2_3).bind fun t448=>(some (3,a2_0,a0,a1,a2_1,a2_2,0,t448))
def msg_Cast.T1:Bool×List (List Nat×List Nat):=(true,[([],[]),([0],[0]),([],[]),([],[]),([],[]),([4],[4]),([],[]),([6],[6]),([],[]),([8],[8]),([9],[9]),([1,2,3,5,7,10],[1,2,3,5,7,10]),([11,10,0,1,2,3,4,5,6,7,8,9,10,11],[11])])
def msg_Cast.B1:List Nat:=[0,1,0,0,0,16,0,64,0,256,768,2047,4095]
theorem msg_Cast.tab1:rtab .any (opsOf Tryz.f37 1)=msg_Cast.T1:=by kernel_rfl
theorem msg_Cast.bits1:waitsOk msg_Cast.T1.2 msg_Cast.B1=true:=by kernel_rfl
theorem msg_Cast.calls (a0:Int) (a1:Int) (a2_0:Int) (a2_1:Int) (a2_2:Int) (A2_3:Option Addr) (c2_3:Nat) (l2_3:List ByteArray) (r1:Int) (r2:Int) (r3:Int) (r4:Int) (r5:Int) (r6:Int) (r7:Int) (r8:List ByteArray) (w:World) (hr2_3:Kd.C Kd.string w A2_3 l2_3.length l2_3) (hc2_3:l2_3.length≤c2_3) (h:msg_Cast.f a0 a1 a2_0 a2_1 a2_2 l2_3=some (r1,r2,r3,r4,r5,r6,r7,r8)) :
  Calls Tryz.prog 37 #[.int .i64 a0,.int .i64 a1,.agg #[a2_0,a2_1,a2_2,.slice A2_3 l2_3.length c2_3]] w fun e w'=>∃ v7_:Value,e=.returned (.agg #[r1,r2,r3,r4,r5,r6,r7,v7_])∧Kd.R Kd.string 9 w' w.heap.size (fun _=>True) v7_ r8∧Below w.heap.size w w':=by
 have hu63:=Tryz.underlying63
 have hu28:=Tryz.underlying28
 have HR2_3:=sd hr2_3
 have HC2_3:=sd hc2_3
 clear hr2_3 hc2_3
 have HB:=sd (Below.refl w.heap.size w)
 have H:((slices_Clone_string_string.f l2_3).bind fun t448=>(some (3,a2_0,a0,a1,a2_1,a2_2,0,t448)))=some (r1,r2,r3,r4,r5,r6,r7,r8):=h
 clear h
 replace H:=Option.bind_eq_some_iff.mp H
 obtain ⟨t448,A40,H⟩:=H
 replace H:(some (3,a2_0,a0,a1,a2_1,a2_2,0,t448))=some (r1,r2,r3,r4,r5,r6,r7,r8):=H
 have A4:=sd A40
 clear A40
 simp only [Option.some.injEq,Prod.mk.injEq] at H
 obtain ⟨rfl,rfl,rfl,rfl,rfl,rfl,rfl,rfl⟩:=H
 go_enter Tryz.func37,Tryz.ntmps37
 try go_wp2_with (first | ((with_reducible refine gate_dst (N:=5) rfl ?_);refine box_event ?hg (N:=5) ?hd (cs:=#[a2_0,a2_1,a2_2,.slice A2_3 l2_3.length c2_3]) (t:=63) ?hr ?_;(case hd=>rfl);(case hg=>rfl);(case hr=>(go_simp;done));intro gb446 hg w5 hbox hb;have BK446:=sd (hbox);have GW446:=sd ((by rw [hg];exact (below_size HB.out):w.heap.size≤gb446));have GE446:=sd ((by rw [hg];exact (below_size HB.out):w.heap.size≤gb446));replace HB:=sd (below_step HB.out hb);clear hb hbox hg) | ((with_reducible refine gate_dst (N:=6) rfl ?_);refine box_event ?hg (N:=6) ?hd (cs:=#[.int .i64 0,.int .i64 0,.int .i64 0,.int .i64 0,.int .i64 0,.int .i64 0,.int .i64 0,.slice none 0 0]) (t:=28) ?hr ?_;(case hd=>rfl);(case hg=>rfl);(case hr=>(go_simp;done));intro gb447 hg w6 hbox hb;have BK447:=sd (hbox);have GW447:=sd ((by rw [hg];exact (below_size HB.out):w.heap.size≤gb447));have GE447:=sd ((by rw [hg];exact (below_size HB.out):w.heap.size≤gb447));replace HB:=sd (below_step HB.out hb);have NB446_447:=sd ((by rw [hg];exact Nat.ne_of_lt (blk_lt BK446.out):gb446≠gb447));have NB447_446:=sd ((by rw [hg];exact Nat.ne_of_gt (blk_lt BK446.out):gb447≠gb446));replace BK446:=sd (blk_below BK446.out hb);clear hb hbox hg))
 replace BK446:=sd (blk_drew BK446.out)
 replace BK447:=sd (blk_drew BK447.out)
 replace HB:=sd (below_drew1 HB.out)
 refine start_ (n:=13) (S:=fun w'=>w'.cell? ⟨gb446,0,none⟩=some (.int .i64 a2_0)∧w'.cell? ⟨gb446,1,none⟩=some (.int .i64 a2_1)∧w'.cell? ⟨gb446,2,none⟩=some (.int .i64 a2_2)∧w'.cell? ⟨gb446,3,none⟩=some (.slice A2_3 l2_3.length c2_3)) (ds:=[]) #[false,false,false,false,false,false,false,false,false,false,false,false,false] (by kernel_rfl) rfl rfl ⟨(blk_cell BK446.out 0).trans rfl,(blk_cell BK446.out 1).trans rfl,(blk_cell BK446.out 2).trans rfl,(blk_cell BK446.out 3).trans rfl⟩ (fun hHeld=>?_);refine with_tabW msg_Cast.tab1 msg_Cast.bits1 (fun HT_ HW_=>?_)
 generalize w6.drew=w7 at BK446 BK447 HB hHeld ⊢
 refine pure_ (i:=0) (N:=some 7) (v:=?_) (a':=?_) #[true,false,false,false,false,false,false,false,false,false,false,false,false] rfl rfl (any_of HT_.out (by kernel_rfl)) (fun _ _ _ h=>h) (Or.inl ⟨by rfl,?_⟩) ?_ ?_
 rotate_left
 ·intro w'
  go_simp
  with_reducible rfl
 rotate_left
 ·simp only [Act.put,List.setIfInBounds_toArray,List.set_cons_zero,List.set_cons_succ,i64_w,i32_w]
  rfl
 refine pure_ (i:=2) (N:=some 9) (v:=?_) (a':=?_) #[true,false,true,false,false,false,false,false,false,false,false,false,false] rfl rfl (any_of HT_.out (by kernel_rfl)) (fun _ _ _ h=>h) (Or.inl ⟨by rfl,?_⟩) ?_ ?_
 rotate_left
 ·intro w'
  go_simp
  with_reducible rfl
 rotate_left
 ·simp only [Act.put,List.setIfInBounds_toArray,List.set_cons_zero,List.set_cons_succ,i64_w,i32_w]
  rfl
 refine pure_ (i:=3) (N:=some 10) (v:=?_) (a':=?_) #[true,false,true,true,false,false,false,false,false,false,false,false,false] rfl rfl (any_of HT_.out (by kernel_rfl)) (fun _ _ _ h=>h) (Or.inl ⟨by rfl,?_⟩) ?_ ?_
 rotate_left
 ·intro w'
  go_simp
  with_reducible rfl
 rotate_left
 ·simp only [Act.put,List.setIfInBounds_toArray,List.set_cons_zero,List.set_cons_succ,i64_w,i32_w]
  rfl
 refine pure_ (i:=4) (N:=some 11) (v:=?_) (a':=?_) #[true,false,true,true,true,false,false,false,false,false,false,false,false] rfl rfl (any_of HT_.out (by kernel_rfl)) (fun _ _ _ h=>h) (Or.inl ⟨by rfl,?_⟩) ?_ ?_
 rotate_left
 ·intro w'
  go_simp
  with_reducible rfl
 rotate_left
 ·simp only [Act.put,List.setIfInBounds_toArray,List.set_cons_zero,List.set_cons_succ,i64_w,i32_w]
  rfl
 refine pure_ (i:=6) (N:=some 13) (v:=?_) (a':=?_) #[true,false,true,true,true,false,true,false,false,false,false,false,false] rfl rfl (any_of HT_.out (by kernel_rfl)) (fun _ _ _ h=>h) (Or.inl ⟨by rfl,?_⟩) ?_ ?_
 rotate_left
 ·intro w'
  go_simp
  with_reducible rfl
 rotate_left
 ·simp only [Act.put,List.setIfInBounds_toArray,List.set_cons_zero,List.set_cons_succ,i64_w,i32_w]
  rfl
 refine pure_ (i:=8) (N:=some 15) (v:=?_) (a':=?_) #[true,false,true,true,true,false,true,false,true,false,false,false,false] rfl rfl (any_of HT_.out (by kernel_rfl)) (fun _ _ _ h=>h) (Or.inl ⟨by rfl,?_⟩) ?_ ?_
 rotate_left
 ·intro w'
  go_simp
  with_reducible rfl
 rotate_left
 ·simp only [Act.put,List.setIfInBounds_toArray,List.set_cons_zero,List.set_cons_succ,i64_w,i32_w]
  rfl
 refine take_ (i:=1) (N:=some 8) (v:=?_) (a':=?_) #[true,true,true,true,true,false,true,false,true,false,false,false,false] rfl rfl (take_ofW HT_.out HW_.out (by kernel_rfl)) (fun _ _ _ h=>h) (Or.inl ⟨by rfl,?_⟩) hHeld ?_ ?_
 rotate_left
 ·rintro w' ⟨s0,s1,s2,s3⟩
  go_simp
  with_reducible rfl
 rotate_left
 ·simp only [Act.put,List.setIfInBounds_toArray,List.set_cons_zero,List.set_cons_succ,i64_w,i32_w]
  rfl
 refine take_ (i:=5) (N:=some 12) (v:=?_) (a':=?_) #[true,true,true,true,true,true,true,false,true,false,false,false,false] rfl rfl (take_ofW HT_.out HW_.out (by kernel_rfl)) (fun _ _ _ h=>h) (Or.inl ⟨by rfl,?_⟩) hHeld ?_ ?_
 rotate_left
 ·rintro w' ⟨s0,s1,s2,s3⟩
  go_simp
  with_reducible rfl
 rotate_left
 ·simp only [Act.put,List.setIfInBounds_toArray,List.set_cons_zero,List.set_cons_succ,i64_w,i32_w]
  rfl
 refine take_ (i:=7) (N:=some 14) (v:=?_) (a':=?_) #[true,true,true,true,true,true,true,true,true,false,false,false,false] rfl rfl (take_ofW HT_.out HW_.out (by kernel_rfl)) (fun _ _ _ h=>h) (Or.inl ⟨by rfl,?_⟩) hHeld ?_ ?_
 rotate_left
 ·rintro w' ⟨s0,s1,s2,s3⟩
  go_simp
  with_reducible rfl
 rotate_left
 ·simp only [Act.put,List.setIfInBounds_toArray,List.set_cons_zero,List.set_cons_succ,i64_w,i32_w]
  rfl
 refine take_ (i:=9) (N:=some 16) (v:=?_) (a':=?_) #[true,true,true,true,true,true,true,true,true,true,false,false,false] rfl rfl (take_ofW HT_.out HW_.out (by kernel_rfl)) (fun _ _ _ h=>h) (Or.inl ⟨by rfl,?_⟩) hHeld ?_ ?_
 rotate_left
 ·rintro w' ⟨s0,s1,s2,s3⟩
  go_simp
  with_reducible rfl
 rotate_left
 ·simp only [Act.put,List.setIfInBounds_toArray,List.set_cons_zero,List.set_cons_succ,i64_w,i32_w]
  rfl
 refine one_ (i:=10) (N:=some 17) #[true,true,true,true,true,true,true,true,true,true,true,false,false] rfl rfl (one_of HT_.out (by kernel_rfl)) (by decide) (fun K hK=>?_)
 refine goes_ Tryz.func66 (by kernel_rfl) rfl #[.slice A2_3 l2_3.length c2_3] (by rfl) rfl rfl (by (try simp only [List.map_toArray,List.map_cons,List.map_nil]);rfl) ?_
 with_reducible refine (slices_Clone_string_string.calls _ _ l2_3 t448 _ ?side1 ?side2 A4.out).mono ?_
 (case side1=>exact (Kd.C_below HR2_3.out HB.out))
 (case side2=>exact HC2_3.out)
 rintro e w8 ⟨v449,rfl,ho0,hb⟩
 refine ⟨_,rfl,?_⟩
 have HO450:=sd (Kd.R_lower ho0 (below_size HB.out))
 replace BK446:=sd (blk_below BK446.out hb)
 replace BK447:=sd (blk_below BK447.out hb)
 replace HB:=sd (below_step HB.out hb)
 (try clear hb)
 skip
 skip
 skip
 (try clear ho0)
 obtain ⟨Ao9,co9,eo9⟩:=Kd.R_slice HO450.out
 ((subst eo9))
 refine hK.out _ _ ⟨(blk_cell BK446.out 0).trans rfl,(blk_cell BK446.out 1).trans rfl,(blk_cell BK446.out 2).trans rfl,(blk_cell BK446.out 3).trans rfl⟩ (fun hHeld=>?_)
 clear hK K
 refine norm_ (a':=?_) ?_ ?_
 rotate_left
 ·show Act.put _ (some 17) _=_
  simp only [Act.put,List.setIfInBounds_toArray,List.set_cons_zero,List.set_cons_succ,i64_w,i32_w]
  rfl
 refine pure_ (i:=11) (N:=some 18) (v:=?_) (a':=?_) #[true,true,true,true,true,true,true,true,true,true,true,true,false] rfl rfl (any_of HT_.out (by kernel_rfl)) (fun _ _ _ h=>h) (Or.inl ⟨by rfl,?_⟩) ?_ ?_
 rotate_left
 ·intro w'
  go_simp
  with_reducible rfl
 rotate_left
 ·simp only [Act.put,List.setIfInBounds_toArray,List.set_cons_zero,List.set_cons_succ,i64_w,i32_w]
  rfl
 refine one_ (i:=12) (N:=none) #[true,true,true,true,true,true,true,true,true,true,true,true,true] rfl rfl (one_of HT_.out (by kernel_rfl)) (by decide) (fun K hK=>?_)
 have hs10:w8.cell? ⟨gb447,0,none⟩=some (.int .i64 0):=(blk_cell BK447.out 0).trans rfl
 have hfs10:=blk_frozen BK447.out 0
 have hns10_0:=NB446_447.out
 have hms10_0:=NB447_446.out
 have hs11:w8.cell? ⟨gb447,1,none⟩=some (.int .i64 0):=(blk_cell BK447.out 1).trans rfl
 have hfs11:=blk_frozen BK447.out 1
 have hns11_0:=NB446_447.out
 have hms11_0:=NB447_446.out
 have hs12:w8.cell? ⟨gb447,2,none⟩=some (.int .i64 0):=(blk_cell BK447.out 2).trans rfl
 have hfs12:=blk_frozen BK447.out 2
 have hns12_0:=NB446_447.out
 have hms12_0:=NB447_446.out
 have hs13:w8.cell? ⟨gb447,3,none⟩=some (.int .i64 0):=(blk_cell BK447.out 3).trans rfl
 have hfs13:=blk_frozen BK447.out 3
 have hns13_0:=NB446_447.out
 have hms13_0:=NB447_446.out
 have hs14:w8.cell? ⟨gb447,4,none⟩=some (.int .i64 0):=(blk_cell BK447.out 4).trans rfl
 have hfs14:=blk_frozen BK447.out 4
 have hns14_0:=NB446_447.out
 have hms14_0:=NB447_446.out
 have hs15:w8.cell? ⟨gb447,5,none⟩=some (.int .i64 0):=(blk_cell BK447.out 5).trans rfl
 have hfs15:=blk_frozen BK447.out 5
 have hns15_0:=NB446_447.out
 have hms15_0:=NB447_446.out
 have hs16:w8.cell? ⟨gb447,6,none⟩=some (.int .i64 0):=(blk_cell BK447.out 6).trans rfl
 have hfs16:=blk_frozen BK447.out 6
 have hns16_0:=NB446_447.out
 have hms16_0:=NB447_446.out
 have hs17:w8.cell? ⟨gb447,7,none⟩=some (.slice none 0 0):=(blk_cell BK447.out 7).trans rfl
 have hfs17:=blk_frozen BK447.out 7
 have hns17_0:=NB446_447.out
 have hms17_0:=NB447_446.out
 refine skip_ (w1:=?_) (by rfl) rfl ?_ ?_
 rotate_left
 ·go_simp
  rfl
 refine hK.out _ _ ⟨((cell_far (p:=⟨gb447,_,none⟩) NB446_447.out _).trans (((cell_far (p:=⟨gb447,_,none⟩) NB446_447.out _).trans (((cell_far (p:=⟨gb447,_,none⟩) NB446_447.out _).trans (((cell_far (p:=⟨gb447,_,none⟩) NB446_447.out _).trans (((cell_far (p:=⟨gb447,_,none⟩) NB446_447.out _).trans (((cell_far (p:=⟨gb447,_,none⟩) NB446_447.out _).trans (((cell_far (p:=⟨gb447,_,none⟩) NB446_447.out _).trans (((cell_far (p:=⟨gb447,_,none⟩) NB446_447.out _).trans (hHeld.1)))))))))))))))),((cell_far (p:=⟨gb447,_,none⟩) NB446_447.out _).trans (((cell_far (p:=⟨gb447,_,none⟩) NB446_447.out _).trans (((cell_far (p:=⟨gb447,_,none⟩) NB446_447.out _).trans (((cell_far (p:=⟨gb447,_,none⟩) NB446_447.out _).trans (((cell_far (p:=⟨gb447,_,none⟩) NB446_447.out _).trans (((cell_far (p:=⟨gb447,_,none⟩) NB446_447.out _).trans (((cell_far (p:=⟨gb447,_,none⟩) NB446_447.out _).trans (((cell_far (p:=⟨gb447,_,none⟩) NB446_447.out _).trans (hHeld.2.1)))))))))))))))),((cell_far (p:=⟨gb447,_,none⟩) NB446_447.out _).trans (((cell_far (p:=⟨gb447,_,none⟩) NB446_447.out _).trans (((cell_far (p:=⟨gb447,_,none⟩) NB446_447.out _).trans (((cell_far (p:=⟨gb447,_,none⟩) NB446_447.out _).trans (((cell_far (p:=⟨gb447,_,none⟩) NB446_447.out _).trans (((cell_far (p:=⟨gb447,_,none⟩) NB446_447.out _).trans (((cell_far (p:=⟨gb447,_,none⟩) NB446_447.out _).trans (((cell_far (p:=⟨gb447,_,none⟩) NB446_447.out _).trans (hHeld.2.2.1)))))))))))))))),((cell_far (p:=⟨gb447,_,none⟩) NB446_447.out _).trans (((cell_far (p:=⟨gb447,_,none⟩) NB446_447.out _).trans (((cell_far (p:=⟨gb447,_,none⟩) NB446_447.out _).trans (((cell_far (p:=⟨gb447,_,none⟩) NB446_447.out _).trans (((cell_far (p:=⟨gb447,_,none⟩) NB446_447.out _).trans (((cell_far (p:=⟨gb447,_,none⟩) NB446_447.out _).trans (((cell_far (p:=⟨gb447,_,none⟩) NB446_447.out _).trans (((cell_far (p:=⟨gb447,_,none⟩) NB446_447.out _).trans (hHeld.2.2.2))))))))))))))))⟩ (fun hHeld=>?_)
 clear hK K
 refine done_ (done_of HT_.out (by kernel_rfl)) ?_
 try go_wp2
 refine bodyPost_ret (results_cell_row rfl _ _ gb447 28 #[.int .i64 3,a2_0,a0,a1,a2_1,a2_2,.int .i64 0,.slice Ao9 t448.length co9] (0,0) _ rfl (by (with_reducible repeat (fail));refine blk_put (cs:=#[.int .i64 3,a2_0,a0,a1,a2_1,a2_2,.int .i64 0,.slice none 0 0]) ?_ 7 _ rfl;(with_reducible repeat (fail));refine blk_put (cs:=#[.int .i64 3,a2_0,a0,a1,a2_1,a2_2,.int .i64 0,.slice none 0 0]) ?_ 6 _ rfl;(with_reducible repeat (fail));refine blk_put (cs:=#[.int .i64 3,a2_0,a0,a1,a2_1,.int .i64 0,.int .i64 0,.slice none 0 0]) ?_ 5 _ rfl;(with_reducible repeat (fail));refine blk_put (cs:=#[.int .i64 3,a2_0,a0,a1,.int .i64 0,.int .i64 0,.int .i64 0,.slice none 0 0]) ?_ 4 _ rfl;(with_reducible repeat (fail));refine blk_put (cs:=#[.int .i64 3,a2_0,a0,.int .i64 0,.int .i64 0,.int .i64 0,.int .i64 0,.slice none 0 0]) ?_ 3 _ rfl;(with_reducible repeat (fail));refine blk_put (cs:=#[.int .i64 3,a2_0,.int .i64 0,.int .i64 0,.int .i64 0,.int .i64 0,.int .i64 0,.slice none 0 0]) ?_ 2 _ rfl;(with_reducible repeat (fail));refine blk_put (cs:=#[.int .i64 3,.int .i64 0,.int .i64 0,.int .i64 0,.int .i64 0,.int .i64 0,.int .i64 0,.slice none 0 0]) ?_ 1 _ rfl;(with_reducible repeat (fail));refine blk_put (cs:=#[.int .i64 0,.int .i64 0,.int .i64 0,.int .i64 0,.int .i64 0,.int .i64 0,.int .i64 0,.slice none 0 0]) ?_ 0 _ rfl;(with_reducible repeat (fail));exact BK447.out) Tryz.underlying28 rfl (by kernel_rfl)) rfl ?_
 exact ⟨_,by rfl,by (with_reducible repeat (fail));exact Kd.R_mono (Kd.R_far (p:=⟨gb447,7,none⟩) (Kd.R_far (p:=⟨gb447,6,none⟩) (Kd.R_far (p:=⟨gb447,5,none⟩) (Kd.R_far (p:=⟨gb447,4,none⟩) (Kd.R_far (p:=⟨gb447,3,none⟩) (Kd.R_far (p:=⟨gb447,2,none⟩) (Kd.R_far (p:=⟨gb447,1,none⟩) (Kd.R_far (p:=⟨gb447,0,none⟩) (Kd.R_types HO450.out BK447.out (by decide)) (fun _ hk=>hk.2) (.int .i64 3)) (fun _ hk=>hk.2) a2_0) (fun _ hk=>hk.2) a0) (fun _ hk=>hk.2) a1) (fun _ hk=>hk.2) a2_1) (fun _ hk=>hk.2) a2_2) (fun _ hk=>hk.2) (.int .i64 0)) (fun _ hk=>hk.2) (.slice Ao9 t448.length co9)) (fun _ hk=>trivial),by repeat ((with_reducible first | exact HB.out | refine below_set ?_ GE447.out))⟩
def sextonref01_Texts.l0:Nat→List ByteArray→List ByteArray→Int→Option (Bool)
 | 0,_,_,_=>none
 | k+1,x0,x1,x5=>if x5 < (x0.length:Int) then (if 0≤x5 then (if x5 < (x1.length:Int) then (if (rdOf ByteArray.empty x0 x5).toList=(rdOf ByteArray.empty x1 x5).toList then (sextonref01_Texts.l0 k x0 x1 (wrap64 (x5+1))) else (some false)) else (none)) else (none)) else (some true)
def sextonref01_Texts.f (k:Nat) (l0:List ByteArray) (l1:List ByteArray):Option (Bool):=if (l0.length:Int)=(l1.length:Int) then (sextonref01_Texts.l0 k l0 l1 0) else (some false)
theorem sextonref01_Texts.calls (k:Nat) (A0:Option Addr) (c0:Nat) (l0:List ByteArray) (A1:Option Addr) (c1:Nat) (l1:List ByteArray) (r:Bool) (w:World) (hr0:Kd.C Kd.string w A0 l0.length l0) (hc0:l0.length≤c0) (hr1:Kd.C Kd.string w A1 l1.length l1) (hc1:l1.length≤c1) (h:sextonref01_Texts.f k l0 l1=some r) :
  Calls Tryz.prog 54 #[.slice A0 l0.length c0,.slice A1 l1.length c1] w fun e w'=>e=.returned r∧Drawn0 w w':=by
 have HR0:=sd hr0
 have HC0:=sd hc0
 clear hr0 hc0
 have HR1:=sd hr1
 have HC1:=sd hc1
 clear hr1 hc1
 have H:(if (l0.length:Int)=(l1.length:Int) then (sextonref01_Texts.l0 k l0 l1 0) else (some false))=some r:=h
 clear h
 by_cases c3:(l0.length:Int)=(l1.length:Int)
 ·rw [if_pos c3] at H
  have c3b0:((l0.length:Int)==(l1.length:Int))=true:=beq_iff_eq.mpr c3
  have c3b1:((l0.length:Int) != (l1.length:Int))=false:=bne_eq_false_iff_eq.mpr c3
  have c3b2:(l0.length==l1.length)=true:=by (simp at c3 ⊢;omega)
  clear c3
  have H':=sd H
  clear H
  go_enter Tryz.func54,Tryz.ntmps54
  go_wp2
  repeat (go_quiet (fail);try go_wp2)
  go_loopg [5] k (fun kq v5 w'=>∃ (x5_1:Int),v5=.int .i64 x5_1∧Aside0 (sextonref01_Texts.l0 kq l0 l1 x5_1=some r)∧Aside0 (kq≤k)∧Drawn0 w w')
  case atStart=>exact ⟨(0),(by rfl),H',⟨Nat.le_refl _⟩,by repeat ((exact Drawn0.refl _))⟩
  case round =>
   clear H'
   try clear c3b0
   try clear c3b1
   try clear c3b2
   obtain ⟨x5_1,rfl,HA,HK1,⟨m1,rfl⟩⟩:=hrel
   cases gk with
   | zero=>exact absurd HA.out (by simp [sextonref01_Texts.l0])
   | succ k1 =>
    have H:=HA.out
    clear HA
    simp only [sextonref01_Texts.l0] at H
    by_cases c4:x5_1 < (l0.length:Int)
    ·rw [if_pos c4] at H
     have c4b0:decide (x5_1 < (l0.length:Int))=true:=decide_eq_true c4
     clear c4
     by_cases c5:0≤x5_1
     ·rw [if_pos c5] at H
      have c5b0:decide (0≤x5_1)=true:=decide_eq_true c5
      clear c5
      by_cases c6:x5_1 < (l1.length:Int)
      ·rw [if_pos c6] at H
       have c6b0:decide (x5_1 < (l1.length:Int))=true:=decide_eq_true c6
       clear c6
       by_cases c7:(rdOf ByteArray.empty l0 x5_1).toList=(rdOf ByteArray.empty l1 x5_1).toList
       ·rw [if_pos c7] at H
        have c7b0:((rdOf ByteArray.empty l0 x5_1).toList==(rdOf ByteArray.empty l1 x5_1).toList)=true:=beq_iff_eq.mpr c7
        have c7b1:((rdOf ByteArray.empty l0 x5_1).toList != (rdOf ByteArray.empty l1 x5_1).toList)=false:=bne_eq_false_iff_eq.mpr c7
        clear c7
        have H':=sd H
        clear H
        have p622:0≤(x5_1:Int):=of_decide_eq_true (by (with_reducible assumption))
        have q622:x5_1 < (l0.length:Int):=of_decide_eq_true (by (with_reducible assumption))
        obtain ⟨ad622,e622,hx622_0⟩:=Kd.at_string HR0.out x5_1 p622 q622
        cases e622
        replace p622:=eq_true p622
        replace q622:=eq_true q622
        have p623:0≤(x5_1:Int):=of_decide_eq_true (by (with_reducible assumption))
        have q623:x5_1 < (l1.length:Int):=of_decide_eq_true (by (with_reducible assumption))
        obtain ⟨ad623,e623,hx623_0⟩:=Kd.at_string HR1.out x5_1 p623 q623
        cases e623
        replace p623:=eq_true p623
        replace q623:=eq_true q623
        go_wp2
        repeat (go_quiet (fail);try go_wp2)
        go_roundg k1
        case measure=>have:=HK1.out;omega
        case rel=>exact ⟨(wrap64 (x5_1+1)),(by rfl),H',⟨by have:=HK1.out;omega⟩,by repeat (first | exact Drawn0.refl _ | apply Drawn0.step)⟩
       ·rw [if_neg c7] at H
        have c7b0:((rdOf ByteArray.empty l0 x5_1).toList==(rdOf ByteArray.empty l1 x5_1).toList)=false:=beq_eq_false_iff_ne.mpr c7
        have c7b1:((rdOf ByteArray.empty l0 x5_1).toList != (rdOf ByteArray.empty l1 x5_1).toList)=true:=bne_iff_ne.mpr c7
        obtain rfl:=Option.some.inj H
        have p622:0≤(x5_1:Int):=of_decide_eq_true (by (with_reducible assumption))
        have q622:x5_1 < (l0.length:Int):=of_decide_eq_true (by (with_reducible assumption))
        obtain ⟨ad622,e622,hx622_0⟩:=Kd.at_string HR0.out x5_1 p622 q622
        cases e622
        replace p622:=eq_true p622
        replace q622:=eq_true q622
        have p623:0≤(x5_1:Int):=of_decide_eq_true (by (with_reducible assumption))
        have q623:x5_1 < (l1.length:Int):=of_decide_eq_true (by (with_reducible assumption))
        obtain ⟨ad623,e623,hx623_0⟩:=Kd.at_string HR1.out x5_1 p623 q623
        cases e623
        replace p623:=eq_true p623
        replace q623:=eq_true q623
        go_wp2
        repeat (go_quiet (fail);try go_wp2)
        go_ret
        exact ⟨by rfl,by repeat (first | exact Drawn0.refl _ | apply Drawn0.step)⟩
      ·rw [if_neg c6] at H
       exact absurd H (by simp)
     ·rw [if_neg c5] at H
      exact absurd H (by simp)
    ·rw [if_neg c4] at H
     have c4b0:decide (x5_1 < (l0.length:Int))=false:=decide_eq_false c4
     clear c4
     obtain rfl:=Option.some.inj H
     go_wp2
     repeat (go_quiet (fail);try go_wp2)
     go_ret
     exact ⟨by rfl,by repeat (first | exact Drawn0.refl _ | apply Drawn0.step)⟩
 ·rw [if_neg c3] at H
  have c3b0:((l0.length:Int)==(l1.length:Int))=false:=beq_eq_false_iff_ne.mpr c3
  have c3b1:((l0.length:Int) != (l1.length:Int))=true:=bne_iff_ne.mpr c3
  have c3b2:(l0.length==l1.length)=false:=by (simp at c3 ⊢;omega)
  obtain rfl:=Option.some.inj H
  go_enter Tryz.func54,Tryz.ntmps54
  go_wp2
  repeat (go_quiet (fail);try go_wp2)
  go_ret
  exact ⟨by rfl,by repeat ((exact Drawn0.refl _))⟩
def sextonref01_Ints.l0:Nat→List Int→List Int→Int→Option (Bool)
 | 0,_,_,_=>none
 | k+1,x0,x1,x5=>if x5 < (x0.length:Int) then (if 0≤x5 then (if x5 < (x1.length:Int) then (if (rd x0 x5)=(rd x1 x5) then (sextonref01_Ints.l0 k x0 x1 (wrap64 (x5+1))) else (some false)) else (none)) else (none)) else (some true)
def sextonref01_Ints.f (k:Nat) (l0:List Int) (l1:List Int):Option (Bool):=if (l0.length:Int)=(l1.length:Int) then (sextonref01_Ints.l0 k l0 l1 0) else (some false)
theorem sextonref01_Ints.calls (k:Nat) (A0:Option Addr) (c0:Nat) (l0:List Int) (A1:Option Addr) (c1:Nat) (l1:List Int) (r:Bool) (w:World) (hr0:Kd.C (Kd.int .i64) w A0 l0.length l0) (hc0:l0.length≤c0) (hr1:Kd.C (Kd.int .i64) w A1 l1.length l1) (hc1:l1.length≤c1) (h:sextonref01_Ints.f k l0 l1=some r) :
  Calls Tryz.prog 55 #[.slice A0 l0.length c0,.slice A1 l1.length c1] w fun e w'=>e=.returned r∧Drawn0 w w':=by
 have HR0:=sd hr0
 have HC0:=sd hc0
 clear hr0 hc0
 have HR1:=sd hr1
 have HC1:=sd hc1
 clear hr1 hc1
 have H:(if (l0.length:Int)=(l1.length:Int) then (sextonref01_Ints.l0 k l0 l1 0) else (some false))=some r:=h
 clear h
 by_cases c3:(l0.length:Int)=(l1.length:Int)
 ·rw [if_pos c3] at H
  have c3b0:((l0.length:Int)==(l1.length:Int))=true:=beq_iff_eq.mpr c3
  have c3b1:((l0.length:Int) != (l1.length:Int))=false:=bne_eq_false_iff_eq.mpr c3
  have c3b2:(l0.length==l1.length)=true:=by (simp at c3 ⊢;omega)
  clear c3
  have H':=sd H
  clear H
  go_enter Tryz.func55,Tryz.ntmps55
  go_wp2
  repeat (go_quiet (fail);try go_wp2)
  go_loopg [5] k (fun kq v5 w'=>∃ (x5_1:Int),v5=.int .i64 x5_1∧Aside0 (sextonref01_Ints.l0 kq l0 l1 x5_1=some r)∧Aside0 (kq≤k)∧Drawn0 w w')
  case atStart=>exact ⟨(0),(by rfl),H',⟨Nat.le_refl _⟩,by repeat ((exact Drawn0.refl _))⟩
  case round =>
   clear H'
   try clear c3b0
   try clear c3b1
   try clear c3b2
   obtain ⟨x5_1,rfl,HA,HK1,⟨m1,rfl⟩⟩:=hrel
   cases gk with
   | zero=>exact absurd HA.out (by simp [sextonref01_Ints.l0])
   | succ k1 =>
    have H:=HA.out
    clear HA
    simp only [sextonref01_Ints.l0] at H
    by_cases c4:x5_1 < (l0.length:Int)
    ·rw [if_pos c4] at H
     have c4b0:decide (x5_1 < (l0.length:Int))=true:=decide_eq_true c4
     clear c4
     by_cases c5:0≤x5_1
     ·rw [if_pos c5] at H
      have c5b0:decide (0≤x5_1)=true:=decide_eq_true c5
      clear c5
      by_cases c6:x5_1 < (l1.length:Int)
      ·rw [if_pos c6] at H
       have c6b0:decide (x5_1 < (l1.length:Int))=true:=decide_eq_true c6
       clear c6
       by_cases c7:(rd l0 x5_1)=(rd l1 x5_1)
       ·rw [if_pos c7] at H
        have c7b0:((rd l0 x5_1)==(rd l1 x5_1))=true:=beq_iff_eq.mpr c7
        have c7b1:((rd l0 x5_1) != (rd l1 x5_1))=false:=bne_eq_false_iff_eq.mpr c7
        clear c7
        have H':=sd H
        clear H
        have p624:0≤(x5_1:Int):=of_decide_eq_true (by (with_reducible assumption))
        have q624:x5_1 < (l0.length:Int):=of_decide_eq_true (by (with_reducible assumption))
        obtain ⟨ad624,e624,hx624_0⟩:=Kd.at_int HR0.out x5_1 p624 q624
        cases e624
        replace p624:=eq_true p624
        replace q624:=eq_true q624
        have p625:0≤(x5_1:Int):=of_decide_eq_true (by (with_reducible assumption))
        have q625:x5_1 < (l1.length:Int):=of_decide_eq_true (by (with_reducible assumption))
        obtain ⟨ad625,e625,hx625_0⟩:=Kd.at_int HR1.out x5_1 p625 q625
        cases e625
        replace p625:=eq_true p625
        replace q625:=eq_true q625
        go_wp2
        repeat (go_quiet (fail);try go_wp2)
        go_roundg k1
        case measure=>have:=HK1.out;omega
        case rel=>exact ⟨(wrap64 (x5_1+1)),(by rfl),H',⟨by have:=HK1.out;omega⟩,by repeat (first | exact Drawn0.refl _ | apply Drawn0.step)⟩
       ·rw [if_neg c7] at H
        have c7b0:((rd l0 x5_1)==(rd l1 x5_1))=false:=beq_eq_false_iff_ne.mpr c7
        have c7b1:((rd l0 x5_1) != (rd l1 x5_1))=true:=bne_iff_ne.mpr c7
        obtain rfl:=Option.some.inj H
        have p624:0≤(x5_1:Int):=of_decide_eq_true (by (with_reducible assumption))
        have q624:x5_1 < (l0.length:Int):=of_decide_eq_true (by (with_reducible assumption))
        obtain ⟨ad624,e624,hx624_0⟩:=Kd.at_int HR0.out x5_1 p624 q624
        cases e624
        replace p624:=eq_true p624
        replace q624:=eq_true q624
        have p625:0≤(x5_1:Int):=of_decide_eq_true (by (with_reducible assumption))
        have q625:x5_1 < (l1.length:Int):=of_decide_eq_true (by (with_reducible assumption))
        obtain ⟨ad625,e625,hx625_0⟩:=Kd.at_int HR1.out x5_1 p625 q625
        cases e625
        replace p625:=eq_true p625
        replace q625:=eq_true q625
        go_wp2
        repeat (go_quiet (fail);try go_wp2)
        go_ret
        exact ⟨by rfl,by repeat (first | exact Drawn0.refl _ | apply Drawn0.step)⟩
      ·rw [if_neg c6] at H
       exact absurd H (by simp)
     ·rw [if_neg c5] at H
      exact absurd H (by simp)
    ·rw [if_neg c4] at H
     have c4b0:decide (x5_1 < (l0.length:Int))=false:=decide_eq_false c4
     clear c4
     obtain rfl:=Option.some.inj H
     go_wp2
     repeat (go_quiet (fail);try go_wp2)
     go_ret
     exact ⟨by rfl,by repeat (first | exact Drawn0.refl _ | apply Drawn0.step)⟩
 ·rw [if_neg c3] at H
  have c3b0:((l0.length:Int)==(l1.length:Int))=false:=beq_eq_false_iff_ne.mpr c3
  have c3b1:((l0.length:Int) != (l1.length:Int))=true:=bne_iff_ne.mpr c3
  have c3b2:(l0.length==l1.length)=false:=by (simp at c3 ⊢;omega)
  obtain rfl:=Option.some.inj H
  go_enter Tryz.func55,Tryz.ntmps55
  go_wp2
  repeat (go_quiet (fail);try go_wp2)
  go_ret
  exact ⟨by rfl,by repeat ((exact Drawn0.refl _))⟩
end
end Go.Proofs.YtfpfpckocemmdaaGreat.P
