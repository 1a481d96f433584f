/- Part 28 of the walk. -/
import Derived.Test.YtfpfpckocemmdaaGreatCDoes26
set_option linter.unusedVariables false
set_option linter.unusedSimpArgs false
set_option maxHeartbeats 8000000
set_option maxRecDepth 100000
namespace Go.Proofs.YtfpfpckocemmdaaGreat.P
open Go.RowKit Go.Proofs.YtfpfpckocemmdaaGreatW.PrintWords Go.Proofs.YtfpfpckocemmdaaGreatW.PrintLast Go.Proofs.YtfpfpckocemmdaaGreatW.PrintMore
theorem logs_good {x:Nod} (h:Good x) (s:ByteArray) (hl:x.log.length≤900):Good (x.logs s):=⟨h.n1,h.n2,h.id0,h.id1,h.view,by show (x.log++[s]).length≤1000;simp;omega,h.acks,h.votes,h.each,h.told⟩
theorem ask_does (id n view last:Int) (works:Bool) (commit:Int) (log:List ByteArray) (acks:List Int) (votes:List S63) (told:List S28) (A6 A7 A8:Option Addr) (c6 c7 c8:Nat) (w:World) (h6:Kd.C Kd.string w A6 log.length log) (l6:log.length≤c6) (h7:Kd.C (Kd.int .i64) w A7 acks.length acks) (l7:acks.length≤c7) (h8:Kd.C k63 w A8 votes.length votes) (l8:votes.length≤c8)
  (hl:log.length < 4398046511104) (ha:acks.length < 4398046511104) (hvl:votes.length < 4398046511104) (hv:∀ v,v∈votes→v.f3.length < 4398046511104∧(Lit.int .i64 v.f0).wf=true) (s:ByteArray)
  (his:isB ⟨id,n,view,last,works,commit,log,acks,votes,told⟩=true) (hld:(Nod.opened ⟨id,n,view,last,works,commit,log,acks,votes,told⟩).leads=true) (hf:¬ ((Nod.opened ⟨id,n,view,last,works,commit,log,acks,votes,told⟩).log.length:Int)=60) (hs:¬ (s.size:Int) > 300) :
  Calls Tryz.prog 6 #[.agg #[.int .i64 id,.int .i64 n,.int .i64 view,.int .i64 last,.bool works,.int .i64 commit,.slice A6 log.length c6,.slice A7 acks.length c7,.slice A8 votes.length c8],.string s] w fun e w'=>∃ v6 v7 v8 v9,e=.returned (.tuple #[.agg #[.int .i64 ((((Nod.opened ⟨id,n,view,last,works,commit,log,acks,votes,told⟩).logs s).counts).tell).id,.int .i64 ((((Nod.opened ⟨id,n,view,last,works,commit,log,acks,votes,told⟩).logs s).counts).tell).n,.int .i64 ((((Nod.opened ⟨id,n,view,last,works,commit,log,acks,votes,told⟩).logs s).counts).tell).view,.int .i64 ((((Nod.opened ⟨id,n,view,last,works,commit,log,acks,votes,told⟩).logs s).counts).tell).last,.bool ((((Nod.opened ⟨id,n,view,last,works,commit,log,acks,votes,told⟩).logs s).counts).tell).works,.int .i64 ((((Nod.opened ⟨id,n,view,last,works,commit,log,acks,votes,told⟩).logs s).counts).tell).commit,v6,v7,v8],v9,.int .i64 0])∧Res w' w.heap.size ((((Nod.opened ⟨id,n,view,last,works,commit,log,acks,votes,told⟩).logs s).counts).tell) v6 v7 v8 v9∧Below w.heap.size w w':=by
 have hu26:=Tryz.underlying26
 have hu28:=Tryz.underlying28
 have hu56:=Tryz.underlying56
 have hu63:=Tryz.underlying63
 have HR:=Aside0.mk (right_of his)
 have hvs:votes.length≤900:=by have h1:=HR.out.count;have h2:=HR.out.n7;simp only at h1 h2;omega
 have hvt:∀ v,v∈votes→v.f3.length≤1000:=fun v hv=>by have h1:=(loggedB_len (votesB_all _ _ _ _ HR.out.votes v hv).2.2.2.2.2).1;omega
 obtain ⟨hw5,sz5,bx5,by5,bl5,be5⟩:=new4 w (.cells #[.int .i64 id,.int .i64 n,.int .i64 view,.int .i64 last,.bool works,.int .i64 commit,.slice A6 log.length c6,.slice A7 acks.length c7,.slice A8 votes.length c8] 26) (.cells #[.int .i64 0,.int .i64 0,.int .i64 0,.int .i64 0,.bool false,.int .i64 0,.slice none 0 0,.slice none 0 0,.slice none 0 0] 26) (.cells #[.slice none 0 0] 31) (.cells #[.int .i64 0] 32)
 have HW5:=Aside0.mk hw5
 have SZ5:=Aside0.mk sz5
 have BX5:=Aside0.mk bx5
 have BY5:=Aside0.mk (five_zero by5)
 have BL5:=Aside0.mk bl5
 have BE5:=Aside0.mk be5
 clear hw5 sz5 bx5 by5 bl5 be5
 have H21:=Aside0.mk (open_is id n view last works commit log acks votes told A6 A7 A8 c6 c7 c8 _ (Kd.C_below h6 HW5.out) l6 (Kd.C_below h7 HW5.out) l7 (Kd.C_below h8 HW5.out) l8 hl ha hvl hv his hvs hvt)
 have HLD:=Aside0.mk hld
 have l1:(((Nod.opened ⟨id,n,view,last,works,commit,log,acks,votes,told⟩).log.length:Int)==60)=false:=beq_eq_false_iff_ne.mpr hf
 have l2:decide ((s.size:Int) > 300)=false:=decide_eq_false hs
 have l3:decide ((300:Int) < (s.size:Int))=false:=decide_eq_false hs
 have HG0:=Aside0.mk (logs_good HR.out.good s (by have h1:=(loggedB_len HR.out.log).1;show log.length≤900;simp only at h1;omega))
 have HG1:=Aside0.mk (counts_good HG0.out)
 have HLL:=Aside0.mk (show (Nod.opened ⟨id,n,view,last,works,commit,log,acks,votes,told⟩).log.length≤100000 by have h1:=HR.out.good.log;omega)
 clear hld hf hs
 clear h6 l6 h7 l7 h8 l8 hl ha hvl hv his hvs hvt
 go_enter_defers Tryz.func6,Tryz.ntmps6
 go_wp2_with (first | (go_at_call 27;refine H21.out.mono ?_;rintro e w6 ⟨g,rfl,hN,hb6⟩;have HN6:=Aside0.mk hN;have HD6:=Aside0.mk (Did.refl hN);have HW6:=Aside0.mk (below_step HW5.out hb6);have SZ6:=Aside0.mk (show w.heap.size+4≤w6.heap.size by have h1:=hb6.size;have h2:=SZ5.out;omega);have BX6:=Aside0.mk ((hb6.block (w.heap.size) (by rw [SZ5.out];omega)).trans BX5.out);have BY6:=Aside0.mk ((hb6.block (w.heap.size+1) (by rw [SZ5.out];omega)).trans BY5.out);have BL6:=Aside0.mk ((hb6.block (w.heap.size+1+1) (by rw [SZ5.out];omega)).trans BL5.out);have BE6:=Aside0.mk ((hb6.block (w.heap.size+1+1+1) (by rw [SZ5.out];omega)).trans BE5.out);obtain ⟨D6,d6,D7,d7,D8,d8,D9,d9,hbg,-⟩:=hN.res2;have p0:w6.cell? ⟨g,0,none⟩=some (.int .i64 (Nod.opened ⟨id,n,view,last,works,commit,log,acks,votes,told⟩).id):=blk_cell hbg 0;have p1:w6.cell? ⟨g,1,none⟩=some (.int .i64 (Nod.opened ⟨id,n,view,last,works,commit,log,acks,votes,told⟩).n):=blk_cell hbg 1;have p2:w6.cell? ⟨g,2,none⟩=some (.int .i64 (Nod.opened ⟨id,n,view,last,works,commit,log,acks,votes,told⟩).view):=blk_cell hbg 2;have p3:w6.cell? ⟨g,3,none⟩=some (.int .i64 (Nod.opened ⟨id,n,view,last,works,commit,log,acks,votes,told⟩).last):=blk_cell hbg 3;have p4:w6.cell? ⟨g,4,none⟩=some (.bool (Nod.opened ⟨id,n,view,last,works,commit,log,acks,votes,told⟩).works):=blk_cell hbg 4;have p5:w6.cell? ⟨g,5,none⟩=some (.int .i64 (Nod.opened ⟨id,n,view,last,works,commit,log,acks,votes,told⟩).commit):=blk_cell hbg 5;have p6:w6.cell? ⟨g,6,none⟩=some (.slice D6 ((Nod.opened ⟨id,n,view,last,works,commit,log,acks,votes,told⟩)).log.length d6):=blk_cell hbg 6;have p7:w6.cell? ⟨g,7,none⟩=some (.slice D7 ((Nod.opened ⟨id,n,view,last,works,commit,log,acks,votes,told⟩)).acks.length d7):=blk_cell hbg 7;have p8:w6.cell? ⟨g,8,none⟩=some (.slice D8 ((Nod.opened ⟨id,n,view,last,works,commit,log,acks,votes,told⟩)).votes.length d8):=blk_cell hbg 8;have p9:w6.cell? ⟨g,9,none⟩=some (.slice D9 ((Nod.opened ⟨id,n,view,last,works,commit,log,acks,votes,told⟩)).told.length d9):=blk_cell hbg 9;have HLC:=Aside0.mk (leads_calls (Nod.opened ⟨id,n,view,last,works,commit,log,acks,votes,told⟩) w6 g p0 p1 p2 p4 HR.out.good.view HR.out.good.n1);have HCD:=Aside0.mk (fun k=>(show (w6.drewN k).cell? ⟨g,6,none⟩=some (.slice D6 ((Nod.opened ⟨id,n,view,last,works,commit,log,acks,votes,told⟩)).log.length d6) from p6));have BGD:=Aside0.mk (fun k=>(show (w6.drewN k).heap[g]?=_ from hbg));clear hN hb6 hbg) | (go_at_call 28;have hlc:=HLC.out;rw [HLD.out] at hlc;refine hlc.mono ?_;rintro e w7 ⟨rfl,⟨nd,rfl⟩⟩) | ((with_reducible refine gate_builtin (b:=.append) (xs:=#[.tmp 32,.tmp 34]) rfl ?_);at_builtin;refine log_wp s D6 d6 (HD6.out.drewN _) (HCD.out _) HLL.out rfl (.tmp 32) (.tmp 34) rfl rfl rfl ?_;intro A1 c1 w8 hd8 he8;have HD8:=Aside0.mk hd8;have hbg8:=he8.trans (BGD.out _);have hc68:w8.cell? ⟨g,6,none⟩=some _:=blk_cell hbg8 6;have hf68:w8.frozen? ⟨g,6,none⟩=false:=blk_frozen hbg8 6;clear hd8 he8 hbg8) | (go_at_call 29;refine (counts_did ((Nod.opened ⟨id,n,view,last,works,commit,log,acks,votes,told⟩).logs s) w6 _ _ g _ HG0.out HD8.out).mono ?_;rintro e w9 ⟨rfl,h9⟩;have HD9:=Aside0.mk h9;clear h9) | (go_at_call 30;refine (tell_did (((Nod.opened ⟨id,n,view,last,works,commit,log,acks,votes,told⟩).logs s).counts) w6 _ _ g _ (by have:=HG1.out.n1;omega) HG1.out.n2 HG1.out.told (by have:=HG1.out.log;omega) HD9.out).mono ?_;rintro e w10 ⟨rfl,h10⟩;have HN10:=Aside0.mk h10.1;have HW10:=Aside0.mk (HW6.out.trans (below_weak h10.2.2.1 (by have:=SZ5.out;omega)));have BY10:=Aside0.mk ((h10.2.2.1.block (w.heap.size+1) (by rw [SZ5.out];omega)).trans BY6.out);have BL10:=Aside0.mk ((h10.2.2.1.block (w.heap.size+1+1) (by rw [SZ5.out];omega)).trans BL6.out);have BE10:=Aside0.mk ((h10.2.2.1.block (w.heap.size+1+1+1) (by rw [SZ5.out];omega)).trans BE6.out);obtain ⟨D6,d6,D7,d7,D8,d8,D9,d9,hbg,hres⟩:=HN10.out.res2;have HRES:=Aside0.mk hres;have BG10:=Aside0.mk hbg;have tg0:w10.cell? ⟨g,0,none⟩=some (.int .i64 ((((Nod.opened ⟨id,n,view,last,works,commit,log,acks,votes,told⟩).logs s).counts).tell).id):=blk_cell hbg 0;have tg1:w10.cell? ⟨g,1,none⟩=some (.int .i64 ((((Nod.opened ⟨id,n,view,last,works,commit,log,acks,votes,told⟩).logs s).counts).tell).n):=blk_cell hbg 1;have tg2:w10.cell? ⟨g,2,none⟩=some (.int .i64 ((((Nod.opened ⟨id,n,view,last,works,commit,log,acks,votes,told⟩).logs s).counts).tell).view):=blk_cell hbg 2;have tg3:w10.cell? ⟨g,3,none⟩=some (.int .i64 ((((Nod.opened ⟨id,n,view,last,works,commit,log,acks,votes,told⟩).logs s).counts).tell).last):=blk_cell hbg 3;have tg4:w10.cell? ⟨g,4,none⟩=some (.bool ((((Nod.opened ⟨id,n,view,last,works,commit,log,acks,votes,told⟩).logs s).counts).tell).works):=blk_cell hbg 4;have tg5:w10.cell? ⟨g,5,none⟩=some (.int .i64 ((((Nod.opened ⟨id,n,view,last,works,commit,log,acks,votes,told⟩).logs s).counts).tell).commit):=blk_cell hbg 5;have tg6:w10.cell? ⟨g,6,none⟩=some (.slice D6 (((((Nod.opened ⟨id,n,view,last,works,commit,log,acks,votes,told⟩).logs s).counts).tell)).log.length d6):=blk_cell hbg 6;have tg7:w10.cell? ⟨g,7,none⟩=some (.slice D7 (((((Nod.opened ⟨id,n,view,last,works,commit,log,acks,votes,told⟩).logs s).counts).tell)).acks.length d7):=blk_cell hbg 7;have tg8:w10.cell? ⟨g,8,none⟩=some (.slice D8 (((((Nod.opened ⟨id,n,view,last,works,commit,log,acks,votes,told⟩).logs s).counts).tell)).votes.length d8):=blk_cell hbg 8;have tg9:w10.cell? ⟨g,9,none⟩=some (.slice D9 (((((Nod.opened ⟨id,n,view,last,works,commit,log,acks,votes,told⟩).logs s).counts).tell)).told.length d9):=blk_cell hbg 9;have ty0:w10.cell? ⟨w.heap.size+1,0,none⟩=some (.int .i64 0):=(blk_cell BY10.out 0).trans rfl;have tf0:=blk_frozen BY10.out 0;have ty1:w10.cell? ⟨w.heap.size+1,1,none⟩=some (.int .i64 0):=(blk_cell BY10.out 1).trans rfl;have tf1:=blk_frozen BY10.out 1;have ty2:w10.cell? ⟨w.heap.size+1,2,none⟩=some (.int .i64 0):=(blk_cell BY10.out 2).trans rfl;have tf2:=blk_frozen BY10.out 2;have ty3:w10.cell? ⟨w.heap.size+1,3,none⟩=some (.int .i64 0):=(blk_cell BY10.out 3).trans rfl;have tf3:=blk_frozen BY10.out 3;have ty4:w10.cell? ⟨w.heap.size+1,4,none⟩=some (.bool false):=(blk_cell BY10.out 4).trans rfl;have tf4:=blk_frozen BY10.out 4;have ty5:w10.cell? ⟨w.heap.size+1,5,none⟩=some (.int .i64 0):=(blk_cell BY10.out 5).trans rfl;have tf5:=blk_frozen BY10.out 5;have ty6:w10.cell? ⟨w.heap.size+1,6,none⟩=some (.slice none 0 0):=(blk_cell BY10.out 6).trans rfl;have tf6:=blk_frozen BY10.out 6;have ty7:w10.cell? ⟨w.heap.size+1,7,none⟩=some (.slice none 0 0):=(blk_cell BY10.out 7).trans rfl;have tf7:=blk_frozen BY10.out 7;have ty8:w10.cell? ⟨w.heap.size+1,8,none⟩=some (.slice none 0 0):=(blk_cell BY10.out 8).trans rfl;have tf8:=blk_frozen BY10.out 8;have tl0:w10.cell? ⟨w.heap.size+1+1,0,none⟩=some (.slice none 0 0):=(blk_cell BL10.out 0).trans rfl;have tl1:=blk_frozen BL10.out 0;have te0:w10.cell? ⟨w.heap.size+1+1+1,0,none⟩=some (.int .i64 0):=(blk_cell BE10.out 0).trans rfl;have te1:=blk_frozen BE10.out 0;have HGE:=Aside0.mk (show w.heap.size+4≤g from by have h1:=HN10.out.ge;have h2:=SZ5.out;omega);have ney1:g≠w.heap.size+1:=(by have:=HGE.out;omega);have ney2:w.heap.size+1≠g:=(by have:=HGE.out;omega);have nel1:g≠w.heap.size+1+1:=(by have:=HGE.out;omega);have nel2:w.heap.size+1+1≠g:=(by have:=HGE.out;omega);have nee1:g≠w.heap.size+1+1+1:=(by have:=HGE.out;omega);have nee2:w.heap.size+1+1+1≠g:=(by have:=HGE.out;omega);have nyl:w.heap.size+1≠w.heap.size+1+1:=(by omega);have nye:w.heap.size+1≠w.heap.size+1+1+1:=(by omega);have nle:w.heap.size+1+1≠w.heap.size+1+1+1:=(by omega);have nyl':=nyl.symm;have nye':=nye.symm;have nle':=nle.symm;clear hbg hres;clear h10))
 generalize he:w.heap.size+1+1+1=ge at *
 have HG_e:=Aside0.mk he
 clear he
 generalize hl:w.heap.size+1+1=gl at *
 have HG_l:=Aside0.mk hl
 clear hl
 generalize hy:w.heap.size+1=gy at *
 have HG_y:=Aside0.mk hy
 clear hy
 go_region
 all_goals
  go_wp2
  have HST:=stores_ret (w7:=w10) BY10.out BL10.out BE10.out nyl nye nle (.int .i64 (((((Nod.opened ⟨id,n,view,last,works,commit,log,acks,votes,told⟩).logs s).counts).tell)).id) (.int .i64 (((((Nod.opened ⟨id,n,view,last,works,commit,log,acks,votes,told⟩).logs s).counts).tell)).n) (.int .i64 (((((Nod.opened ⟨id,n,view,last,works,commit,log,acks,votes,told⟩).logs s).counts).tell)).view) (.int .i64 (((((Nod.opened ⟨id,n,view,last,works,commit,log,acks,votes,told⟩).logs s).counts).tell)).last) (.bool (((((Nod.opened ⟨id,n,view,last,works,commit,log,acks,votes,told⟩).logs s).counts).tell)).works) (.int .i64 (((((Nod.opened ⟨id,n,view,last,works,commit,log,acks,votes,told⟩).logs s).counts).tell)).commit) (.slice D6 (((((Nod.opened ⟨id,n,view,last,works,commit,log,acks,votes,told⟩).logs s).counts).tell)).log.length d6) (.slice D7 (((((Nod.opened ⟨id,n,view,last,works,commit,log,acks,votes,told⟩).logs s).counts).tell)).acks.length d7) (.slice D8 (((((Nod.opened ⟨id,n,view,last,works,commit,log,acks,votes,told⟩).logs s).counts).tell)).votes.length d8) (.slice D9 (((((Nod.opened ⟨id,n,view,last,works,commit,log,acks,votes,told⟩).logs s).counts).tell)).told.length d9) (.int .i64 0)
  refine leaves_cons (f:=26) (args:=#[.pointer (some ⟨gy,0,none⟩),.pointer (some ⟨gl,0,none⟩),.pointer (some ⟨ge,0,none⟩)]) (by simp) (by kernel_rfl) ?_
  refine (caught_idle ⟨gy,0,none⟩ ⟨gl,0,none⟩ ⟨ge,0,none⟩ _).mono ?_
  rintro e u' w9 ⟨rfl,rfl,rfl⟩
  have E1:=HG_e.out
  have E2:=HG_l.out
  have E3:=HG_y.out
  have E4:=SZ5.out
  refine ⟨_,results_8 rfl _ _ gy gl ge 26 _ (0,0) _ _ rfl rfl rfl HST.1 rfl HST.2.1 HST.2.2.1,_,_,_,_,rfl,(HRES.out _ (fun k hk hl hg=>HST.2.2.2.1 k (by omega) (by omega) (by omega))).lower (by omega),HW10.out.trans (HST.2.2.2.2 _ (by omega) (by omega) (by omega))⟩
theorem tell_good {x:Nod} (h:Good x) (ht:x.told.length+x.n.toNat≤1000):Good x.tell:=⟨h.n1,h.n2,h.id0,h.id1,h.view,h.log,h.acks,h.votes,h.each,by
 have:=x.upto_le x.n.toNat
 show (x.told++x.upto x.n.toNat).length≤1000
 rw [List.length_append]
 omega⟩
theorem counts_told (x:Nod):x.counts.told=x.told∧x.counts.n=x.n∧x.counts.id=x.id∧x.counts.view=x.view:=by
 unfold Nod.counts Nod.count
 split<;>exact ⟨rfl,rfl,rfl,rfl⟩
theorem begin_good {x:Nod} (h:Good x) (ht:x.told.length+x.n.toNat≤1000):Good x.begin_:=by
 unfold Nod.begin_
 split
 ·rename_i hm
  have hne:x.votes≠[]:=by
   unfold Nod.may at hm
   simp only [Bool.and_eq_true] at hm
   exact enough_ne _ _ h.n1 hm.2
  have hc:=counts_told x.rise.clear
  refine tell_good (counts_good (clear_good (rise_good h hne))) ?_
  rw [hc.1,hc.2.1]
  exact ht
 ·exact h
theorem cast_of (a b:Int) (v:S63) (h:v.f3.length < 4398046511104):msg_Cast.f a b v.f0 v.f1 v.f2 v.f3=some (3,v.f0,a,b,v.f1,v.f2,0,v.f3):=by
 unfold msg_Cast.f slices_Clone_string_string.f
 rw [if_pos h];rfl
def Nod.castTo (x:Nod) (p:Int):S28:=⟨3,x.id,p,x.view,x.last,x.commit,0,x.log⟩
theorem timeout_last (id n view last:Int) (works:Bool) (commit:Int) (log:List ByteArray) (acks:List Int) (votes:List S63) (told:List S28) (A6 A7 A8:Option Addr) (c6 c7 c8:Nat) (w:World) (h6:Kd.C Kd.string w A6 log.length log) (l6:log.length≤c6) (h7:Kd.C (Kd.int .i64) w A7 acks.length acks) (l7:acks.length≤c7) (h8:Kd.C k63 w A8 votes.length votes) (l8:votes.length≤c8)
  (hl:log.length < 4398046511104) (ha:acks.length < 4398046511104) (hvl:votes.length < 4398046511104) (hv:∀ v,v∈votes→v.f3.length < 4398046511104∧(Lit.int .i64 v.f0).wf=true)
  (his:isB ⟨id,n,view,last,works,commit,log,acks,votes,told⟩=true) (hv9:view=1000000) :
  Calls Tryz.prog 8 #[.agg #[.int .i64 id,.int .i64 n,.int .i64 view,.int .i64 last,.bool works,.int .i64 commit,.slice A6 log.length c6,.slice A7 acks.length c7,.slice A8 votes.length c8]] w fun e w'=>∃ v6 v7 v8 v9,e=.returned (.tuple #[.agg #[.int .i64 zeroNod.id,.int .i64 zeroNod.n,.int .i64 zeroNod.view,.int .i64 zeroNod.last,.bool zeroNod.works,.int .i64 zeroNod.commit,v6,v7,v8],v9,.int .i64 2])∧Res w' w.heap.size zeroNod v6 v7 v8 v9∧Below w.heap.size w w':=by
 have hu26:=Tryz.underlying26
 have hu28:=Tryz.underlying28
 have hu56:=Tryz.underlying56
 have hu63:=Tryz.underlying63
 have HR:=Aside0.mk (right_of his)
 have hvs:votes.length≤900:=by have h1:=HR.out.count;have h2:=HR.out.n7;simp only at h1 h2;omega
 have hvt:∀ v,v∈votes→v.f3.length≤1000:=fun v hv=>by have h1:=(loggedB_len (votesB_all _ _ _ _ HR.out.votes v hv).2.2.2.2.2).1;omega
 obtain ⟨hw5,sz5,bx5,by5,bl5,be5⟩:=new4 w (.cells #[.int .i64 id,.int .i64 n,.int .i64 view,.int .i64 last,.bool works,.int .i64 commit,.slice A6 log.length c6,.slice A7 acks.length c7,.slice A8 votes.length c8] 26) (.cells #[.int .i64 0,.int .i64 0,.int .i64 0,.int .i64 0,.bool false,.int .i64 0,.slice none 0 0,.slice none 0 0,.slice none 0 0] 26) (.cells #[.slice none 0 0] 31) (.cells #[.int .i64 0] 32)
 have HW5:=Aside0.mk hw5
 have SZ5:=Aside0.mk sz5
 have BX5:=Aside0.mk bx5
 have BY5:=Aside0.mk (five_zero by5)
 have BL5:=Aside0.mk bl5
 have BE5:=Aside0.mk be5
 clear hw5 sz5 bx5 by5 bl5 be5
 have H21:=Aside0.mk (open_is id n view last works commit log acks votes told A6 A7 A8 c6 c7 c8 _ (Kd.C_below h6 HW5.out) l6 (Kd.C_below h7 HW5.out) l7 (Kd.C_below h8 HW5.out) l8 hl ha hvl hv his hvs hvt)
 have e1:(((Nod.opened ⟨id,n,view,last,works,commit,log,acks,votes,told⟩).view:Int)==1000000)=true:=beq_iff_eq.mpr hv9
 clear hv9
 have hpn:∀ W:World,(Instr.panic (.iface 32 (.int .i64 2))).run Tryz.prog W=.halt (.panic (.iface 32 (.int .i64 2))) W:=fun _=>rfl
 clear h6 l6 h7 l7 h8 l8 hl ha hvl hv his hvs hvt
 go_enter_defers Tryz.func8,Tryz.ntmps8
 go_wp2_with (first | (go_at_call 27;refine H21.out.mono ?_;rintro e w6 ⟨g,rfl,hN,hb6⟩;have HN6:=Aside0.mk hN;have HD6:=Aside0.mk (Did.refl hN);have HW6:=Aside0.mk (below_step HW5.out hb6);have SZ6:=Aside0.mk (show w.heap.size+4≤w6.heap.size by have h1:=hb6.size;have h2:=SZ5.out;omega);have BX6:=Aside0.mk ((hb6.block (w.heap.size) (by rw [SZ5.out];omega)).trans BX5.out);have BY6:=Aside0.mk ((hb6.block (w.heap.size+1) (by rw [SZ5.out];omega)).trans BY5.out);have BL6:=Aside0.mk ((hb6.block (w.heap.size+1+1) (by rw [SZ5.out];omega)).trans BL5.out);have BE6:=Aside0.mk ((hb6.block (w.heap.size+1+1+1) (by rw [SZ5.out];omega)).trans BE5.out);obtain ⟨D6,d6,D7,d7,D8,d8,D9,d9,hbg,-⟩:=hN.res2;have p0:w6.cell? ⟨g,0,none⟩=some (.int .i64 (Nod.opened ⟨id,n,view,last,works,commit,log,acks,votes,told⟩).id):=blk_cell hbg 0;have p1:w6.cell? ⟨g,1,none⟩=some (.int .i64 (Nod.opened ⟨id,n,view,last,works,commit,log,acks,votes,told⟩).n):=blk_cell hbg 1;have p2:w6.cell? ⟨g,2,none⟩=some (.int .i64 (Nod.opened ⟨id,n,view,last,works,commit,log,acks,votes,told⟩).view):=blk_cell hbg 2;have p3:w6.cell? ⟨g,3,none⟩=some (.int .i64 (Nod.opened ⟨id,n,view,last,works,commit,log,acks,votes,told⟩).last):=blk_cell hbg 3;have p4:w6.cell? ⟨g,4,none⟩=some (.bool (Nod.opened ⟨id,n,view,last,works,commit,log,acks,votes,told⟩).works):=blk_cell hbg 4;have p5:w6.cell? ⟨g,5,none⟩=some (.int .i64 (Nod.opened ⟨id,n,view,last,works,commit,log,acks,votes,told⟩).commit):=blk_cell hbg 5;have p6:w6.cell? ⟨g,6,none⟩=some (.slice D6 ((Nod.opened ⟨id,n,view,last,works,commit,log,acks,votes,told⟩)).log.length d6):=blk_cell hbg 6;have p7:w6.cell? ⟨g,7,none⟩=some (.slice D7 ((Nod.opened ⟨id,n,view,last,works,commit,log,acks,votes,told⟩)).acks.length d7):=blk_cell hbg 7;have p8:w6.cell? ⟨g,8,none⟩=some (.slice D8 ((Nod.opened ⟨id,n,view,last,works,commit,log,acks,votes,told⟩)).votes.length d8):=blk_cell hbg 8;have p9:w6.cell? ⟨g,9,none⟩=some (.slice D9 ((Nod.opened ⟨id,n,view,last,works,commit,log,acks,votes,told⟩)).told.length d9):=blk_cell hbg 9;clear hN hb6 hbg))
 refine leaves_cons (f:=26) (args:=#[.pointer (some ⟨w.heap.size+1,0,none⟩),.pointer (some ⟨w.heap.size+1+1,0,none⟩),.pointer (some ⟨w.heap.size+1+1+1,0,none⟩)]) (by simp) (by kernel_rfl) ?_
 refine (caught_panicking (w.heap.size+1) (w.heap.size+1+1) (w.heap.size+1+1+1) 2 [] w6 BY6.out BL6.out BE6.out (by omega) (by omega) (by omega)).mono ?_
 rintro e u' w9 ⟨rfl,rfl,ky,kl,ke,kb⟩
 refine ⟨_,results_8 rfl _ _ (w.heap.size+1) (w.heap.size+1+1) (w.heap.size+1+1+1) 26 zeroNode (0,0) (.slice none 0 0) 2 rfl rfl rfl ky rfl ((blk_cell kl 0).trans rfl) ((blk_cell ke 0).trans rfl),.slice none 0 0,.slice none 0 0,.slice none 0 0,.slice none 0 0,rfl,res_zero _ _,?_⟩
 exact HW6.out.trans (kb w.heap.size (by omega) (by omega) (by omega))
end Go.Proofs.YtfpfpckocemmdaaGreat.P
