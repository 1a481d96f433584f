/- Part 32 of the walk. -/
import Derived.Test.YtfpfpckocemmdaaGreatCDoes31
set_option linter.unusedVariables false
set_option linter.unusedSimpArgs false
set_option maxHeartbeats 8000000
set_option maxRecDepth 100000
namespace Go.Proofs.YtfpfpckocemmdaaGreat.P
open Go.RowKit Go.Proofs.YtfpfpckocemmdaaGreatW.PrintWords Go.Proofs.YtfpfpckocemmdaaGreatW.PrintLast Go.Proofs.YtfpfpckocemmdaaGreatW.PrintMore
theorem restart_waits (id n view last:Int) (works:Bool) (commit:Int) (log:List ByteArray) (acks:List Int) (votes:List S63) (told:List S28) (A6 A7 A8:Option Addr) (c6 c7 c8:Nat) (w:World) (h6:Kd.C Kd.string w A6 log.length log) (l6:log.length≤c6) (h7:Kd.C (Kd.int .i64) w A7 acks.length acks) (l7:acks.length≤c7) (h8:Kd.C k63 w A8 votes.length votes) (l8:votes.length≤c8)
  (hl:log.length < 4398046511104) (ha:acks.length < 4398046511104) (hvl:votes.length < 4398046511104) (hv:∀ v,v∈votes→v.f3.length < 4398046511104∧(Lit.int .i64 v.f0).wf=true)
  (his:isB ⟨id,n,view,last,works,commit,log,acks,votes,told⟩=true) (hwk:works=false) :
  Calls Tryz.prog 12 #[.agg #[.int .i64 id,.int .i64 n,.int .i64 view,.int .i64 last,.bool works,.int .i64 commit,.slice A6 log.length c6,.slice A7 acks.length c7,.slice A8 votes.length c8]] w fun e w'=>∃ v6 v7 v8 v9,e=.returned (.tuple #[.agg #[.int .i64 ((Nod.opened ⟨id,n,view,last,works,commit,log,acks,votes,told⟩).waits).id,.int .i64 ((Nod.opened ⟨id,n,view,last,works,commit,log,acks,votes,told⟩).waits).n,.int .i64 ((Nod.opened ⟨id,n,view,last,works,commit,log,acks,votes,told⟩).waits).view,.int .i64 ((Nod.opened ⟨id,n,view,last,works,commit,log,acks,votes,told⟩).waits).last,.bool ((Nod.opened ⟨id,n,view,last,works,commit,log,acks,votes,told⟩).waits).works,.int .i64 ((Nod.opened ⟨id,n,view,last,works,commit,log,acks,votes,told⟩).waits).commit,v6,v7,v8],.int .i64 0])∧Res w' w.heap.size ((Nod.opened ⟨id,n,view,last,works,commit,log,acks,votes,told⟩).waits) v6 v7 v8 v9∧Below w.heap.size w w':=by
 have hu26:=Tryz.underlying26
 have hu28:=Tryz.underlying28
 have hu56:=Tryz.underlying56
 have hu63:=Tryz.underlying63
 have HR:=Aside0.mk (right_of his)
 have hvs:votes.length≤900:=by have h1:=HR.out.count;have h2:=HR.out.n7;simp only at h1 h2;omega
 have hvt:∀ v,v∈votes→v.f3.length≤1000:=fun v hv=>by have h1:=(loggedB_len (votesB_all _ _ _ _ HR.out.votes v hv).2.2.2.2.2).1;omega
 obtain ⟨hw5,sz5,bx5,by5,be5,bl5⟩:=new4 w (.cells #[.int .i64 id,.int .i64 n,.int .i64 view,.int .i64 last,.bool works,.int .i64 commit,.slice A6 log.length c6,.slice A7 acks.length c7,.slice A8 votes.length c8] 26) (.cells #[.int .i64 0,.int .i64 0,.int .i64 0,.int .i64 0,.bool false,.int .i64 0,.slice none 0 0,.slice none 0 0,.slice none 0 0] 26) (.cells #[.int .i64 0] 32) (.cells #[.slice none 0 0] 31)
 have HW5:=Aside0.mk hw5
 have SZ5:=Aside0.mk sz5
 have BX5:=Aside0.mk bx5
 have BY5:=Aside0.mk (five_zero by5)
 have BE5:=Aside0.mk be5
 have BL5:=Aside0.mk bl5
 clear hw5 sz5 bx5 by5 be5 bl5
 have H21:=Aside0.mk (open_is id n view last works commit log acks votes told A6 A7 A8 c6 c7 c8 _ (Kd.C_below h6 HW5.out) l6 (Kd.C_below h7 HW5.out) l7 (Kd.C_below h8 HW5.out) l8 hl ha hvl hv his hvs hvt)
 have HGC:=Aside0.mk (clear_good HR.out.good)
 have HG2:=Aside0.mk (counts_good HGC.out)
 have HWK0:=Aside0.mk (show ((Nod.opened ⟨id,n,view,last,works,commit,log,acks,votes,told⟩).clear.counts).works=false by rw [counts_works];exact hwk)
 have HWK:=Aside0.mk (show ((Nod.opened ⟨id,n,view,last,works,commit,log,acks,votes,told⟩).waits).works=false from HWK0.out)
 have HADD:=Aside0.mk (add_of [] ((Nod.opened ⟨id,n,view,last,works,commit,log,acks,votes,told⟩).clear.counts).ownVote (by simp) (by have:=HG2.out.log;exact this) (by simp))
 clear hwk
 clear h6 l6 h7 l7 h8 l8 hl ha hvl hv his hvs hvt
 go_enter_defers Tryz.func12,Tryz.ntmps12
 go_upto_region 8 with (first | (go_at_call 27;refine H21.out.mono ?_;rintro e w6 ⟨g,rfl,hN,hb6⟩;have HN6:=Aside0.mk hN;have HD6:=Aside0.mk (Did.refl hN);have HW6:=Aside0.mk (below_step HW5.out hb6);have SZ6:=Aside0.mk (show w.heap.size+4≤w6.heap.size by have h1:=hb6.size;have h2:=SZ5.out;omega);have BX6:=Aside0.mk ((hb6.block (w.heap.size) (by rw [SZ5.out];omega)).trans BX5.out);have BY6:=Aside0.mk ((hb6.block (w.heap.size+1) (by rw [SZ5.out];omega)).trans BY5.out);have BE6:=Aside0.mk ((hb6.block (w.heap.size+1+1) (by rw [SZ5.out];omega)).trans BE5.out);have BL6:=Aside0.mk ((hb6.block (w.heap.size+1+1+1) (by rw [SZ5.out];omega)).trans BL5.out);obtain ⟨D6,d6,D7,d7,D8,d8,D9,d9,hbg,-⟩:=hN.res2;have p0:w6.cell? ⟨g,0,none⟩=some (.int .i64 (Nod.opened ⟨id,n,view,last,works,commit,log,acks,votes,told⟩).id):=blk_cell hbg 0;have p1:w6.cell? ⟨g,1,none⟩=some (.int .i64 (Nod.opened ⟨id,n,view,last,works,commit,log,acks,votes,told⟩).n):=blk_cell hbg 1;have p2:w6.cell? ⟨g,2,none⟩=some (.int .i64 (Nod.opened ⟨id,n,view,last,works,commit,log,acks,votes,told⟩).view):=blk_cell hbg 2;have p3:w6.cell? ⟨g,3,none⟩=some (.int .i64 (Nod.opened ⟨id,n,view,last,works,commit,log,acks,votes,told⟩).last):=blk_cell hbg 3;have p4:w6.cell? ⟨g,4,none⟩=some (.bool (Nod.opened ⟨id,n,view,last,works,commit,log,acks,votes,told⟩).works):=blk_cell hbg 4;have p5:w6.cell? ⟨g,5,none⟩=some (.int .i64 (Nod.opened ⟨id,n,view,last,works,commit,log,acks,votes,told⟩).commit):=blk_cell hbg 5;have p6:w6.cell? ⟨g,6,none⟩=some (.slice D6 ((Nod.opened ⟨id,n,view,last,works,commit,log,acks,votes,told⟩)).log.length d6):=blk_cell hbg 6;have p7:w6.cell? ⟨g,7,none⟩=some (.slice D7 ((Nod.opened ⟨id,n,view,last,works,commit,log,acks,votes,told⟩)).acks.length d7):=blk_cell hbg 7;have p8:w6.cell? ⟨g,8,none⟩=some (.slice D8 ((Nod.opened ⟨id,n,view,last,works,commit,log,acks,votes,told⟩)).votes.length d8):=blk_cell hbg 8;have p9:w6.cell? ⟨g,9,none⟩=some (.slice D9 ((Nod.opened ⟨id,n,view,last,works,commit,log,acks,votes,told⟩)).told.length d9):=blk_cell hbg 9;clear hN hb6 hbg) | (go_at_call 52;refine (clear_did (Nod.opened ⟨id,n,view,last,works,commit,log,acks,votes,told⟩) w6 _ _ g _ (by have:=HR.out.good.n1;omega) HR.out.good.n2 HD6.out).mono ?_;rintro e w7 ⟨rfl,h7⟩;have HD7:=Aside0.mk h7;clear h7) | (go_at_call 29;refine (counts_did (Nod.opened ⟨id,n,view,last,works,commit,log,acks,votes,told⟩).clear w6 _ _ g _ HGC.out HD7.out).mono ?_;rintro e w8 ⟨rfl,h8⟩;have HD8:=Aside0.mk h8;obtain ⟨q6,q6',q7,q7',q8,q8',q9,q9',hb8,-⟩:=h8.1.res2;have s84:w8.cell? ⟨g,4,none⟩=some (.bool false):=(blk_cell hb8 4).trans (by show some (Value.bool ((Nod.opened ⟨id,n,view,last,works,commit,log,acks,votes,told⟩).clear.counts).works)=_;rw [HWK0.out]);clear hb8;clear h8) | (go_at_call 38;refine (own_calls ((Nod.opened ⟨id,n,view,last,works,commit,log,acks,votes,told⟩).clear.counts) w8 _ g _ HD8.out.1).mono ?_;rintro e w9 ⟨B6,b6,rfl,hc6,hC,hb9⟩;have HC6:=Aside0.mk hc6;have HC:=Aside0.mk (Kd.C_below hC hb9);have HB9:=Aside0.mk hb9;clear hc6 hC hb9) | (go_at_call 53;refine (quorum_Add.calls 1 none 0 [] ((Nod.opened ⟨id,n,view,last,works,commit,log,acks,votes,told⟩).clear.counts).id ((Nod.opened ⟨id,n,view,last,works,commit,log,acks,votes,told⟩).clear.counts).last ((Nod.opened ⟨id,n,view,last,works,commit,log,acks,votes,told⟩).clear.counts).commit B6 b6 ((Nod.opened ⟨id,n,view,last,works,commit,log,acks,votes,told⟩).clear.counts).log _ w9 (Kd.C_nil _ _) (Nat.le_refl 0) HC.out HC6.out HADD.out).mono ?_;rintro e w10 ⟨v0,rfl,hS,hb10⟩;obtain ⟨S8,s8,rfl⟩:=Kd.S_slice hS;have hd10:=(HD8.out.below HB9.out).set_votes hb10 (Nat.le_refl _) hS;have HD10:=Aside0.mk hd10;obtain ⟨x6,x6',x7,x7',x8,x8',x9,x9',hbx,-⟩:=((HD8.out.below HB9.out).below hb10).1.res2;have hs8:w10.cell? ⟨g,8,none⟩=some _:=blk_cell hbx 8;have ht8:w10.frozen? ⟨g,8,none⟩=false:=blk_frozen hbx 8;clear hS hb10 hbx hd10))
 have h11:Did w6 (w10.setCell ⟨g,8,none⟩ (.slice S8 (addTo [] ((Nod.opened ⟨id,n,view,last,works,commit,log,acks,votes,told⟩).clear.counts).ownVote).length s8)) _ g _ ((Nod.opened ⟨id,n,view,last,works,commit,log,acks,votes,told⟩).waits):=HD10.out
 generalize w10.setCell ⟨g,8,none⟩ (.slice S8 (addTo [] ((Nod.opened ⟨id,n,view,last,works,commit,log,acks,votes,told⟩).clear.counts).ownVote).length s8)=w11 at *
 have HN11:=Aside0.mk h11.1
 have HW11:=Aside0.mk (HW6.out.trans (below_weak h11.2.2.1 (by have:=SZ5.out;omega)))
 have BY11:=Aside0.mk ((h11.2.2.1.block (w.heap.size+1) (by rw [SZ5.out];omega)).trans BY6.out)
 have BE11:=Aside0.mk ((h11.2.2.1.block (w.heap.size+1+1) (by rw [SZ5.out];omega)).trans BE6.out)
 have BL11:=Aside0.mk ((h11.2.2.1.block (w.heap.size+1+1+1) (by rw [SZ5.out];omega)).trans BL6.out)
 obtain ⟨D6,d6,D7,d7,D8,d8,D9,d9,hbg,hres⟩:=HN11.out.res2
 have HRES:=Aside0.mk hres
 have BG11:=Aside0.mk hbg
 have tg0:w11.cell? ⟨g,0,none⟩=some (.int .i64 ((Nod.opened ⟨id,n,view,last,works,commit,log,acks,votes,told⟩).waits).id):=blk_cell hbg 0
 have tg1:w11.cell? ⟨g,1,none⟩=some (.int .i64 ((Nod.opened ⟨id,n,view,last,works,commit,log,acks,votes,told⟩).waits).n):=blk_cell hbg 1
 have tg2:w11.cell? ⟨g,2,none⟩=some (.int .i64 ((Nod.opened ⟨id,n,view,last,works,commit,log,acks,votes,told⟩).waits).view):=blk_cell hbg 2
 have tg3:w11.cell? ⟨g,3,none⟩=some (.int .i64 ((Nod.opened ⟨id,n,view,last,works,commit,log,acks,votes,told⟩).waits).last):=blk_cell hbg 3
 have tg4:w11.cell? ⟨g,4,none⟩=some (.bool ((Nod.opened ⟨id,n,view,last,works,commit,log,acks,votes,told⟩).waits).works):=blk_cell hbg 4
 have tg5:w11.cell? ⟨g,5,none⟩=some (.int .i64 ((Nod.opened ⟨id,n,view,last,works,commit,log,acks,votes,told⟩).waits).commit):=blk_cell hbg 5
 have tg6:w11.cell? ⟨g,6,none⟩=some (.slice D6 (((Nod.opened ⟨id,n,view,last,works,commit,log,acks,votes,told⟩).waits)).log.length d6):=blk_cell hbg 6
 have tg7:w11.cell? ⟨g,7,none⟩=some (.slice D7 (((Nod.opened ⟨id,n,view,last,works,commit,log,acks,votes,told⟩).waits)).acks.length d7):=blk_cell hbg 7
 have tg8:w11.cell? ⟨g,8,none⟩=some (.slice D8 (((Nod.opened ⟨id,n,view,last,works,commit,log,acks,votes,told⟩).waits)).votes.length d8):=blk_cell hbg 8
 have tg9:w11.cell? ⟨g,9,none⟩=some (.slice D9 (((Nod.opened ⟨id,n,view,last,works,commit,log,acks,votes,told⟩).waits)).told.length d9):=blk_cell hbg 9
 have ty0:w11.cell? ⟨w.heap.size+1,0,none⟩=some (.int .i64 0):=(blk_cell BY11.out 0).trans rfl
 have tf0:=blk_frozen BY11.out 0
 have ty1:w11.cell? ⟨w.heap.size+1,1,none⟩=some (.int .i64 0):=(blk_cell BY11.out 1).trans rfl
 have tf1:=blk_frozen BY11.out 1
 have ty2:w11.cell? ⟨w.heap.size+1,2,none⟩=some (.int .i64 0):=(blk_cell BY11.out 2).trans rfl
 have tf2:=blk_frozen BY11.out 2
 have ty3:w11.cell? ⟨w.heap.size+1,3,none⟩=some (.int .i64 0):=(blk_cell BY11.out 3).trans rfl
 have tf3:=blk_frozen BY11.out 3
 have ty4:w11.cell? ⟨w.heap.size+1,4,none⟩=some (.bool false):=(blk_cell BY11.out 4).trans rfl
 have tf4:=blk_frozen BY11.out 4
 have ty5:w11.cell? ⟨w.heap.size+1,5,none⟩=some (.int .i64 0):=(blk_cell BY11.out 5).trans rfl
 have tf5:=blk_frozen BY11.out 5
 have ty6:w11.cell? ⟨w.heap.size+1,6,none⟩=some (.slice none 0 0):=(blk_cell BY11.out 6).trans rfl
 have tf6:=blk_frozen BY11.out 6
 have ty7:w11.cell? ⟨w.heap.size+1,7,none⟩=some (.slice none 0 0):=(blk_cell BY11.out 7).trans rfl
 have tf7:=blk_frozen BY11.out 7
 have ty8:w11.cell? ⟨w.heap.size+1,8,none⟩=some (.slice none 0 0):=(blk_cell BY11.out 8).trans rfl
 have tf8:=blk_frozen BY11.out 8
 have tl0:w11.cell? ⟨w.heap.size+1+1+1,0,none⟩=some (.slice none 0 0):=(blk_cell BL11.out 0).trans rfl
 have tl1:=blk_frozen BL11.out 0
 have te0:w11.cell? ⟨w.heap.size+1+1,0,none⟩=some (.int .i64 0):=(blk_cell BE11.out 0).trans rfl
 have te1:=blk_frozen BE11.out 0
 have HGE:=Aside0.mk (show w.heap.size+4≤g from by have h1:=HN11.out.ge;have h2:=SZ5.out;omega)
 have ney1:g≠w.heap.size+1:=(by have:=HGE.out;omega)
 have ney2:w.heap.size+1≠g:=(by have:=HGE.out;omega)
 have nel1:g≠w.heap.size+1+1+1:=(by have:=HGE.out;omega)
 have nel2:w.heap.size+1+1+1≠g:=(by have:=HGE.out;omega)
 have nee1:g≠w.heap.size+1+1:=(by have:=HGE.out;omega)
 have nee2:w.heap.size+1+1≠g:=(by have:=HGE.out;omega)
 have nyl:w.heap.size+1≠w.heap.size+1+1+1:=(by omega)
 have nye:w.heap.size+1≠w.heap.size+1+1:=(by omega)
 have nle:w.heap.size+1+1+1≠w.heap.size+1+1:=(by omega)
 have nyl':=nyl.symm
 have nye':=nye.symm
 have nle':=nle.symm
 clear hbg hres
 have t84:w11.cell? ⟨g,4,none⟩=some (.bool false):=tg4.trans (by rw [HWK.out])
 clear h11 tg4
 go_wp2
 generalize hl:w.heap.size+1+1+1=gl at *
 have HG_l:=Aside0.mk hl
 clear hl
 generalize he:w.heap.size+1+1=ge at *
 have HG_e:=Aside0.mk he
 clear he
 generalize hy:w.heap.size+1=gy at *
 have HG_y:=Aside0.mk hy
 clear hy
 have HST:=stores_ret2 (w7:=w11) BY11.out BE11.out nye (.int .i64 (((Nod.opened ⟨id,n,view,last,works,commit,log,acks,votes,told⟩).waits)).id) (.int .i64 (((Nod.opened ⟨id,n,view,last,works,commit,log,acks,votes,told⟩).waits)).n) (.int .i64 (((Nod.opened ⟨id,n,view,last,works,commit,log,acks,votes,told⟩).waits)).view) (.int .i64 (((Nod.opened ⟨id,n,view,last,works,commit,log,acks,votes,told⟩).waits)).last) (.bool false) (.int .i64 (((Nod.opened ⟨id,n,view,last,works,commit,log,acks,votes,told⟩).waits)).commit) (.slice D6 (((Nod.opened ⟨id,n,view,last,works,commit,log,acks,votes,told⟩).waits)).log.length d6) (.slice D7 (((Nod.opened ⟨id,n,view,last,works,commit,log,acks,votes,told⟩).waits)).acks.length d7) (.slice D8 (((Nod.opened ⟨id,n,view,last,works,commit,log,acks,votes,told⟩).waits)).votes.length d8) (.int .i64 0)
 refine leaves_cons (f:=26) (args:=#[.pointer (some ⟨gy,0,none⟩),.pointer (some ⟨gl,0,none⟩),.pointer (some ⟨ge,0,none⟩)]) (by simp) (by kernel_rfl) ?_
 refine (caught_idle ⟨gy,0,none⟩ ⟨gl,0,none⟩ ⟨ge,0,none⟩ _).mono ?_
 rintro e u' w9 ⟨rfl,rfl,rfl⟩
 have E1:=HG_e.out
 have E2:=HG_l.out
 have E3:=HG_y.out
 have E4:=SZ5.out
 refine ⟨_,results_2 rfl _ _ gy ge 26 _ (0,0) _ rfl rfl HST.1 rfl HST.2.1,_,_,_,by rw [HWK.out],⟨_,(HRES.out _ (fun k hk hl hg=>HST.2.2.1 k (by omega) (by omega))).lower (by omega)⟩,HW11.out.trans (HST.2.2.2 _ (by omega) (by omega))⟩
theorem restart_not (id n view last:Int) (works:Bool) (commit:Int) (log:List ByteArray) (acks:List Int) (votes:List S63) (told:List S28) (A6 A7 A8:Option Addr) (c6 c7 c8:Nat) (w:World) (h6:Kd.C Kd.string w A6 log.length log) (l6:log.length≤c6) (h7:Kd.C (Kd.int .i64) w A7 acks.length acks) (l7:acks.length≤c7) (h8:Kd.C k63 w A8 votes.length votes) (l8:votes.length≤c8)
  (hl:log.length < 4398046511104) (ha:acks.length < 4398046511104) (hvl:votes.length < 4398046511104) (hv:∀ v,v∈votes→v.f3.length < 4398046511104∧(Lit.int .i64 v.f0).wf=true) (his:isB ⟨id,n,view,last,works,commit,log,acks,votes,told⟩=false) :
  Calls Tryz.prog 12 #[.agg #[.int .i64 id,.int .i64 n,.int .i64 view,.int .i64 last,.bool works,.int .i64 commit,.slice A6 log.length c6,.slice A7 acks.length c7,.slice A8 votes.length c8]] w fun e w'=>∃ v6 v7 v8 v9,e=.returned (.tuple #[.agg #[.int .i64 zeroNod.id,.int .i64 zeroNod.n,.int .i64 zeroNod.view,.int .i64 zeroNod.last,.bool zeroNod.works,.int .i64 zeroNod.commit,v6,v7,v8],.int .i64 1])∧Res w' w.heap.size zeroNod v6 v7 v8 v9∧Below w.heap.size w w':=by
 have hu26:=Tryz.underlying26
 have hu28:=Tryz.underlying28
 have HO:=Aside0.mk (open_not id n view last works commit log acks votes told A6 A7 A8 c6 c7 c8 ((((w.alloc (.cells #[.int .i64 id,.int .i64 n,.int .i64 view,.int .i64 last,.bool works,.int .i64 commit,.slice A6 log.length c6,.slice A7 acks.length c7,.slice A8 votes.length c8] 26)).alloc (.cells #[.int .i64 0,.int .i64 0,.int .i64 0,.int .i64 0,.bool false,.int .i64 0,.slice none 0 0,.slice none 0 0,.slice none 0 0] 26)).alloc (.cells #[.int .i64 0] 32)).alloc (.cells #[.slice none 0 0] 31)) (Kd.C_alloc (Kd.C_alloc (Kd.C_alloc (Kd.C_alloc h6 _) _) _) _) l6 (Kd.C_alloc (Kd.C_alloc (Kd.C_alloc (Kd.C_alloc h7 _) _) _) _) l7 (Kd.C_alloc (Kd.C_alloc (Kd.C_alloc (Kd.C_alloc h8 _) _) _) _) l8 hl ha hvl hv his)
 obtain ⟨hw5,sz5,-,by5,be5,bl5⟩:=new4 w (.cells #[.int .i64 id,.int .i64 n,.int .i64 view,.int .i64 last,.bool works,.int .i64 commit,.slice A6 log.length c6,.slice A7 acks.length c7,.slice A8 votes.length c8] 26) (.cells #[.int .i64 0,.int .i64 0,.int .i64 0,.int .i64 0,.bool false,.int .i64 0,.slice none 0 0,.slice none 0 0,.slice none 0 0] 26) (.cells #[.int .i64 0] 32) (.cells #[.slice none 0 0] 31)
 have HW5:=Aside0.mk hw5
 have SZ5:=Aside0.mk sz5
 have BY5:=Aside0.mk (five_zero by5)
 have BE5:=Aside0.mk be5
 have BL5:=Aside0.mk bl5
 clear hw5 sz5 by5 be5 bl5
 clear h6 l6 h7 l7 h8 l8 hl ha hvl hv his
 go_enter_defers Tryz.func12,Tryz.ntmps12
 go_wp2_with (first | (go_at_call 27;refine HO.out.mono ?_;rintro e w6 ⟨rfl,hb6⟩;have HW6:=Aside0.mk (below_step HW5.out hb6);have BY6:=Aside0.mk ((hb6.block _ (by rw [SZ5.out];omega)).trans BY5.out);have BE6:=Aside0.mk ((hb6.block _ (by rw [SZ5.out];omega)).trans BE5.out);have BL6:=Aside0.mk ((hb6.block _ (by rw [SZ5.out];omega)).trans BL5.out);clear hb6))
 refine leaves_cons (f:=26) (args:=#[.pointer (some ⟨w.heap.size+1,0,none⟩),.pointer (some ⟨w.heap.size+1+1+1,0,none⟩),.pointer (some ⟨w.heap.size+1+1,0,none⟩)]) (by simp) (by kernel_rfl) ?_
 refine (caught_panicking (w.heap.size+1) (w.heap.size+1+1+1) (w.heap.size+1+1) 1 [] w6 BY6.out BL6.out BE6.out (by omega) (by omega) (by omega)).mono ?_
 rintro e u' w9 ⟨rfl,rfl,ky,kl,ke,kb⟩
 refine ⟨_,results_2 rfl _ _ (w.heap.size+1) (w.heap.size+1+1) 26 zeroNode (0,0) 1 rfl rfl ky rfl ((blk_cell ke 0).trans rfl),.slice none 0 0,.slice none 0 0,.slice none 0 0,.slice none 0 0,rfl,res_zero _ _,?_⟩
 exact HW6.out.trans (kb w.heap.size (by omega) (by omega) (by omega))
theorem ask_not (id n view last:Int) (works:Bool) (commit:Int) (log:List ByteArray) (acks:List Int) (votes:List S63) (told:List S28) (A6 A7 A8:Option Addr) (c6 c7 c8:Nat) (w:World) (h6:Kd.C Kd.string w A6 log.length log) (l6:log.length≤c6) (h7:Kd.C (Kd.int .i64) w A7 acks.length acks) (l7:acks.length≤c7) (h8:Kd.C k63 w A8 votes.length votes) (l8:votes.length≤c8)
  (hl:log.length < 4398046511104) (ha:acks.length < 4398046511104) (hvl:votes.length < 4398046511104) (hv:∀ v,v∈votes→v.f3.length < 4398046511104∧(Lit.int .i64 v.f0).wf=true) (s:ByteArray) (his:isB ⟨id,n,view,last,works,commit,log,acks,votes,told⟩=false) :
  Calls Tryz.prog 6 #[.agg #[.int .i64 id,.int .i64 n,.int .i64 view,.int .i64 last,.bool works,.int .i64 commit,.slice A6 log.length c6,.slice A7 acks.length c7,.slice A8 votes.length c8],.string s] w fun e w'=>∃ v6 v7 v8 v9,e=.returned (.tuple #[.agg #[.int .i64 zeroNod.id,.int .i64 zeroNod.n,.int .i64 zeroNod.view,.int .i64 zeroNod.last,.bool zeroNod.works,.int .i64 zeroNod.commit,v6,v7,v8],v9,.int .i64 1])∧Res w' w.heap.size zeroNod v6 v7 v8 v9∧Below w.heap.size w w':=by
 have hu26:=Tryz.underlying26
 have hu28:=Tryz.underlying28
 have HO:=Aside0.mk (open_not id n view last works commit log acks votes told A6 A7 A8 c6 c7 c8 ((((w.alloc (.cells #[.int .i64 id,.int .i64 n,.int .i64 view,.int .i64 last,.bool works,.int .i64 commit,.slice A6 log.length c6,.slice A7 acks.length c7,.slice A8 votes.length c8] 26)).alloc (.cells #[.int .i64 0,.int .i64 0,.int .i64 0,.int .i64 0,.bool false,.int .i64 0,.slice none 0 0,.slice none 0 0,.slice none 0 0] 26)).alloc (.cells #[.slice none 0 0] 31)).alloc (.cells #[.int .i64 0] 32)) (Kd.C_alloc (Kd.C_alloc (Kd.C_alloc (Kd.C_alloc h6 _) _) _) _) l6 (Kd.C_alloc (Kd.C_alloc (Kd.C_alloc (Kd.C_alloc h7 _) _) _) _) l7 (Kd.C_alloc (Kd.C_alloc (Kd.C_alloc (Kd.C_alloc h8 _) _) _) _) l8 hl ha hvl hv his)
 obtain ⟨hw5,sz5,-,by5,bl5,be5⟩:=new4 w (.cells #[.int .i64 id,.int .i64 n,.int .i64 view,.int .i64 last,.bool works,.int .i64 commit,.slice A6 log.length c6,.slice A7 acks.length c7,.slice A8 votes.length c8] 26) (.cells #[.int .i64 0,.int .i64 0,.int .i64 0,.int .i64 0,.bool false,.int .i64 0,.slice none 0 0,.slice none 0 0,.slice none 0 0] 26) (.cells #[.slice none 0 0] 31) (.cells #[.int .i64 0] 32)
 have HW5:=Aside0.mk hw5
 have SZ5:=Aside0.mk sz5
 have BY5:=Aside0.mk (five_zero by5)
 have BL5:=Aside0.mk bl5
 have BE5:=Aside0.mk be5
 clear hw5 sz5 by5 bl5 be5
 clear h6 l6 h7 l7 h8 l8 hl ha hvl hv his
 go_enter_defers Tryz.func6,Tryz.ntmps6
 go_wp2_with (first | (go_at_call 27;refine HO.out.mono ?_;rintro e w6 ⟨rfl,hb6⟩;have HW6:=Aside0.mk (below_step HW5.out hb6);have BY6:=Aside0.mk ((hb6.block _ (by rw [SZ5.out];omega)).trans BY5.out);have BE6:=Aside0.mk ((hb6.block _ (by rw [SZ5.out];omega)).trans BE5.out);have BL6:=Aside0.mk ((hb6.block _ (by rw [SZ5.out];omega)).trans BL5.out);clear hb6))
 refine leaves_cons (f:=26) (args:=#[.pointer (some ⟨w.heap.size+1,0,none⟩),.pointer (some ⟨w.heap.size+1+1,0,none⟩),.pointer (some ⟨w.heap.size+1+1+1,0,none⟩)]) (by simp) (by kernel_rfl) ?_
 refine (caught_panicking (w.heap.size+1) (w.heap.size+1+1) (w.heap.size+1+1+1) 1 [] w6 BY6.out BL6.out BE6.out (by omega) (by omega) (by omega)).mono ?_
 rintro e u' w9 ⟨rfl,rfl,ky,kl,ke,kb⟩
 refine ⟨_,results_8 rfl _ _ (w.heap.size+1) (w.heap.size+1+1) (w.heap.size+1+1+1) 26 zeroNode (0,0) (.slice none 0 0) 1 rfl rfl rfl ky rfl ((blk_cell kl 0).trans rfl) ((blk_cell ke 0).trans rfl),.slice none 0 0,.slice none 0 0,.slice none 0 0,.slice none 0 0,rfl,res_zero _ _,?_⟩
 exact HW6.out.trans (kb w.heap.size (by omega) (by omega) (by omega))
theorem timeout_not (id n view last:Int) (works:Bool) (commit:Int) (log:List ByteArray) (acks:List Int) (votes:List S63) (told:List S28) (A6 A7 A8:Option Addr) (c6 c7 c8:Nat) (w:World) (h6:Kd.C Kd.string w A6 log.length log) (l6:log.length≤c6) (h7:Kd.C (Kd.int .i64) w A7 acks.length acks) (l7:acks.length≤c7) (h8:Kd.C k63 w A8 votes.length votes) (l8:votes.length≤c8)
  (hl:log.length < 4398046511104) (ha:acks.length < 4398046511104) (hvl:votes.length < 4398046511104) (hv:∀ v,v∈votes→v.f3.length < 4398046511104∧(Lit.int .i64 v.f0).wf=true) (his:isB ⟨id,n,view,last,works,commit,log,acks,votes,told⟩=false) :
  Calls Tryz.prog 8 #[.agg #[.int .i64 id,.int .i64 n,.int .i64 view,.int .i64 last,.bool works,.int .i64 commit,.slice A6 log.length c6,.slice A7 acks.length c7,.slice A8 votes.length c8]] w fun e w'=>∃ v6 v7 v8 v9,e=.returned (.tuple #[.agg #[.int .i64 zeroNod.id,.int .i64 zeroNod.n,.int .i64 zeroNod.view,.int .i64 zeroNod.last,.bool zeroNod.works,.int .i64 zeroNod.commit,v6,v7,v8],v9,.int .i64 1])∧Res w' w.heap.size zeroNod v6 v7 v8 v9∧Below w.heap.size w w':=by
 have hu26:=Tryz.underlying26
 have hu28:=Tryz.underlying28
 have HO:=Aside0.mk (open_not id n view last works commit log acks votes told A6 A7 A8 c6 c7 c8 ((((w.alloc (.cells #[.int .i64 id,.int .i64 n,.int .i64 view,.int .i64 last,.bool works,.int .i64 commit,.slice A6 log.length c6,.slice A7 acks.length c7,.slice A8 votes.length c8] 26)).alloc (.cells #[.int .i64 0,.int .i64 0,.int .i64 0,.int .i64 0,.bool false,.int .i64 0,.slice none 0 0,.slice none 0 0,.slice none 0 0] 26)).alloc (.cells #[.slice none 0 0] 31)).alloc (.cells #[.int .i64 0] 32)) (Kd.C_alloc (Kd.C_alloc (Kd.C_alloc (Kd.C_alloc h6 _) _) _) _) l6 (Kd.C_alloc (Kd.C_alloc (Kd.C_alloc (Kd.C_alloc h7 _) _) _) _) l7 (Kd.C_alloc (Kd.C_alloc (Kd.C_alloc (Kd.C_alloc h8 _) _) _) _) l8 hl ha hvl hv his)
 obtain ⟨hw5,sz5,-,by5,bl5,be5⟩:=new4 w (.cells #[.int .i64 id,.int .i64 n,.int .i64 view,.int .i64 last,.bool works,.int .i64 commit,.slice A6 log.length c6,.slice A7 acks.length c7,.slice A8 votes.length c8] 26) (.cells #[.int .i64 0,.int .i64 0,.int .i64 0,.int .i64 0,.bool false,.int .i64 0,.slice none 0 0,.slice none 0 0,.slice none 0 0] 26) (.cells #[.slice none 0 0] 31) (.cells #[.int .i64 0] 32)
 have HW5:=Aside0.mk hw5
 have SZ5:=Aside0.mk sz5
 have BY5:=Aside0.mk (five_zero by5)
 have BL5:=Aside0.mk bl5
 have BE5:=Aside0.mk be5
 clear hw5 sz5 by5 bl5 be5
 clear h6 l6 h7 l7 h8 l8 hl ha hvl hv his
 go_enter_defers Tryz.func8,Tryz.ntmps8
 go_wp2_with (first | (go_at_call 27;refine HO.out.mono ?_;rintro e w6 ⟨rfl,hb6⟩;have HW6:=Aside0.mk (below_step HW5.out hb6);have BY6:=Aside0.mk ((hb6.block _ (by rw [SZ5.out];omega)).trans BY5.out);have BE6:=Aside0.mk ((hb6.block _ (by rw [SZ5.out];omega)).trans BE5.out);have BL6:=Aside0.mk ((hb6.block _ (by rw [SZ5.out];omega)).trans BL5.out);clear hb6))
 refine leaves_cons (f:=26) (args:=#[.pointer (some ⟨w.heap.size+1,0,none⟩),.pointer (some ⟨w.heap.size+1+1,0,none⟩),.pointer (some ⟨w.heap.size+1+1+1,0,none⟩)]) (by simp) (by kernel_rfl) ?_
 refine (caught_panicking (w.heap.size+1) (w.heap.size+1+1) (w.heap.size+1+1+1) 1 [] w6 BY6.out BL6.out BE6.out (by omega) (by omega) (by omega)).mono ?_
 rintro e u' w9 ⟨rfl,rfl,ky,kl,ke,kb⟩
 refine ⟨_,results_8 rfl _ _ (w.heap.size+1) (w.heap.size+1+1) (w.heap.size+1+1+1) 26 zeroNode (0,0) (.slice none 0 0) 1 rfl rfl rfl ky rfl ((blk_cell kl 0).trans rfl) ((blk_cell ke 0).trans rfl),.slice none 0 0,.slice none 0 0,.slice none 0 0,.slice none 0 0,rfl,res_zero _ _,?_⟩
 exact HW6.out.trans (kb w.heap.size (by omega) (by omega) (by omega))
end Go.Proofs.YtfpfpckocemmdaaGreat.P
