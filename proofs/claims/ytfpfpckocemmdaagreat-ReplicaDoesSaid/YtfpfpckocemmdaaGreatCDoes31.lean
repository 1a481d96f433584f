/- Part 31 of the walk. -/
import Derived.Test.YtfpfpckocemmdaaGreatCDoes28
set_option linter.unusedVariables false
set_option linter.unusedSimpArgs false
set_option maxHeartbeats 8000000
set_option maxRecDepth 100000
namespace Go.Proofs.YtfpfpckocemmdaaGreat.P
open Go.RowKit Go.Proofs.YtfpfpckocemmdaaGreatW.PrintWords Go.Proofs.YtfpfpckocemmdaaGreatW.PrintLast Go.Proofs.YtfpfpckocemmdaaGreatW.PrintMore
theorem stores_ret2 {w7:World} {gy ge:Nat} {b0 b1 b2 b3 b4 b5 b6 b7 b8 c0:Value} (hy:w7.heap[gy]?=some (.cells #[b0,b1,b2,b3,b4,b5,b6,b7,b8] 26 (0,0))) (he:w7.heap[ge]?=some (.cells #[c0] 32 (0,0))) (nye:gy≠ge) (a0 a1 a2 a3 a4 a5 a6 a7 a8 x:Value) :
  ((((((((((w7.setCell ⟨gy,0,none⟩ a0).setCell ⟨gy,1,none⟩ a1).setCell ⟨gy,2,none⟩ a2).setCell ⟨gy,3,none⟩ a3).setCell ⟨gy,4,none⟩ a4).setCell ⟨gy,5,none⟩ a5).setCell ⟨gy,6,none⟩ a6).setCell ⟨gy,7,none⟩ a7).setCell ⟨gy,8,none⟩ a8).setCell ⟨ge,0,none⟩ x).heap[gy]?=some (.cells #[a0,a1,a2,a3,a4,a5,a6,a7,a8] 26 (0,0))∧((((((((((w7.setCell ⟨gy,0,none⟩ a0).setCell ⟨gy,1,none⟩ a1).setCell ⟨gy,2,none⟩ a2).setCell ⟨gy,3,none⟩ a3).setCell ⟨gy,4,none⟩ a4).setCell ⟨gy,5,none⟩ a5).setCell ⟨gy,6,none⟩ a6).setCell ⟨gy,7,none⟩ a7).setCell ⟨gy,8,none⟩ a8).setCell ⟨ge,0,none⟩ x).cell? ⟨ge,0,none⟩=some x ∧
  (∀ k,k≠gy→k≠ge→((((((((((w7.setCell ⟨gy,0,none⟩ a0).setCell ⟨gy,1,none⟩ a1).setCell ⟨gy,2,none⟩ a2).setCell ⟨gy,3,none⟩ a3).setCell ⟨gy,4,none⟩ a4).setCell ⟨gy,5,none⟩ a5).setCell ⟨gy,6,none⟩ a6).setCell ⟨gy,7,none⟩ a7).setCell ⟨gy,8,none⟩ a8).setCell ⟨ge,0,none⟩ x).heap[k]?=w7.heap[k]?)∧(∀ B,B≤gy→B≤ge→Below B w7 ((((((((((w7.setCell ⟨gy,0,none⟩ a0).setCell ⟨gy,1,none⟩ a1).setCell ⟨gy,2,none⟩ a2).setCell ⟨gy,3,none⟩ a3).setCell ⟨gy,4,none⟩ a4).setCell ⟨gy,5,none⟩ a5).setCell ⟨gy,6,none⟩ a6).setCell ⟨gy,7,none⟩ a7).setCell ⟨gy,8,none⟩ a8).setCell ⟨ge,0,none⟩ x)):=by
 have p0:=blk_put (cs':=#[a0,b1,b2,b3,b4,b5,b6,b7,b8]) hy 0 a0 rfl
 have p1:=blk_put (cs':=#[a0,a1,b2,b3,b4,b5,b6,b7,b8]) p0 1 a1 rfl
 have p2:=blk_put (cs':=#[a0,a1,a2,b3,b4,b5,b6,b7,b8]) p1 2 a2 rfl
 have p3:=blk_put (cs':=#[a0,a1,a2,a3,b4,b5,b6,b7,b8]) p2 3 a3 rfl
 have p4:=blk_put (cs':=#[a0,a1,a2,a3,a4,b5,b6,b7,b8]) p3 4 a4 rfl
 have p5:=blk_put (cs':=#[a0,a1,a2,a3,a4,a5,b6,b7,b8]) p4 5 a5 rfl
 have p6:=blk_put (cs':=#[a0,a1,a2,a3,a4,a5,a6,b7,b8]) p5 6 a6 rfl
 have p7:=blk_put (cs':=#[a0,a1,a2,a3,a4,a5,a6,a7,b8]) p6 7 a7 rfl
 have p8:=blk_put (cs':=#[a0,a1,a2,a3,a4,a5,a6,a7,a8]) p7 8 a8 rfl
 have e_0:=blk_far (p:=⟨gy,0,none⟩) he nye.symm a0
 have e_1:=blk_far (p:=⟨gy,1,none⟩) e_0 nye.symm a1
 have e_2:=blk_far (p:=⟨gy,2,none⟩) e_1 nye.symm a2
 have e_3:=blk_far (p:=⟨gy,3,none⟩) e_2 nye.symm a3
 have e_4:=blk_far (p:=⟨gy,4,none⟩) e_3 nye.symm a4
 have e_5:=blk_far (p:=⟨gy,5,none⟩) e_4 nye.symm a5
 have e_6:=blk_far (p:=⟨gy,6,none⟩) e_5 nye.symm a6
 have e_7:=blk_far (p:=⟨gy,7,none⟩) e_6 nye.symm a7
 have e_8:=blk_far (p:=⟨gy,8,none⟩) e_7 nye.symm a8
 have y1:=blk_far (p:=⟨ge,0,none⟩) p8 nye x
 have e9:=blk_put (cs':=#[x]) e_8 0 x rfl
 refine ⟨y1,(blk_cell e9 0).trans rfl,?_,?_⟩
 ·intro k h1 h3
  have h:=fun (W:World) (v:Value) (j:Nat)=>Below.heap_setCell W ⟨gy,j,none⟩ v k h1
  have he':=fun (W:World) (v:Value)=>Below.heap_setCell W ⟨ge,0,none⟩ v k h3
  rw [he',h,h,h,h,h,h,h,h,h]
 ·intro B h1 h3
  have k0:=below_at (j:=0) (v:=a0) (Below.refl B w7) h1
  have k1:=below_at (j:=1) (v:=a1) k0 h1
  have k2:=below_at (j:=2) (v:=a2) k1 h1
  have k3:=below_at (j:=3) (v:=a3) k2 h1
  have k4:=below_at (j:=4) (v:=a4) k3 h1
  have k5:=below_at (j:=5) (v:=a5) k4 h1
  have k6:=below_at (j:=6) (v:=a6) k5 h1
  have k7:=below_at (j:=7) (v:=a7) k6 h1
  have k8:=below_at (j:=8) (v:=a8) k7 h1
  exact below_at (j:=0) (v:=x) k8 h3
theorem results_2 {fn:Func} {p r:Tmp} (h:fn.results=#[.cell p 26,.cell r 32]) (tmps:Array Value) (w:World) (gy ge:Nat) (t:TypeId) (cs:Array Value) (fr:Nat×Nat) (x:Int)
  (h1:tmps.getD p undef=.pointer (some ⟨gy,0,none⟩)) (h3:tmps.getD r undef=.pointer (some ⟨ge,0,none⟩)) (hg:w.heap[gy]?=some (.cells cs t fr)) (hs:cs.size=9)
  (he:w.cell? ⟨ge,0,none⟩=some (.int .i64 x)) :
  (results fn tmps).run Tryz.prog w=.ok (.tuple #[.agg cs,.int .i64 x]) w:=by
 have h1':tmps[p]?.getD undef=.pointer (some ⟨gy,0,none⟩):=by simpa using h1
 have h3':tmps[r]?.getD undef=.pointer (some ⟨ge,0,none⟩):=by simpa using h3
 have hi:(Tryz.prog.info? 26).map (·.size)=some cs.size:=by rw [hs];kernel_rfl
 have r1:=run_loadVar_row (P:=Tryz.prog) w gy t 26 cs fr _ hg Tryz.underlying26 rfl hi
 have r3:=run_loadVar_one (P:=Tryz.prog) w ge 32 _ _ he Tryz.underlying32 rfl
 simp [results,h,h1',h3',asAddr,r1,r3]
def Nod.waits (x:Nod):Nod:={ x.clear.counts with votes:=addTo [] x.clear.counts.ownVote }
theorem counts_works (x:Nod):x.counts.works=x.works:=by
 unfold Nod.counts Nod.count
 split<;>rfl
def Nod.restart (x:Nod):Nod:=if x.works=true then x.clear.counts else x.waits
theorem restart_works (id n view last:Int) (works:Bool) (commit:Int) (log:List ByteArray) (acks:List Int) (votes:List S63) (told:List S28) (A6 A7 A8:Option Addr) (c6 c7 c8:Nat) (w:World) (h6:Kd.C Kd.string w A6 log.length log) (l6:log.length≤c6) (h7:Kd.C (Kd.int .i64) w A7 acks.length acks) (l7:acks.length≤c7) (h8:Kd.C k63 w A8 votes.length votes) (l8:votes.length≤c8)
  (hl:log.length < 4398046511104) (ha:acks.length < 4398046511104) (hvl:votes.length < 4398046511104) (hv:∀ v,v∈votes→v.f3.length < 4398046511104∧(Lit.int .i64 v.f0).wf=true)
  (his:isB ⟨id,n,view,last,works,commit,log,acks,votes,told⟩=true) (hwk:works=true) :
  Calls Tryz.prog 12 #[.agg #[.int .i64 id,.int .i64 n,.int .i64 view,.int .i64 last,.bool works,.int .i64 commit,.slice A6 log.length c6,.slice A7 acks.length c7,.slice A8 votes.length c8]] w fun e w'=>∃ v6 v7 v8 v9,e=.returned (.tuple #[.agg #[.int .i64 ((Nod.opened ⟨id,n,view,last,works,commit,log,acks,votes,told⟩).clear.counts).id,.int .i64 ((Nod.opened ⟨id,n,view,last,works,commit,log,acks,votes,told⟩).clear.counts).n,.int .i64 ((Nod.opened ⟨id,n,view,last,works,commit,log,acks,votes,told⟩).clear.counts).view,.int .i64 ((Nod.opened ⟨id,n,view,last,works,commit,log,acks,votes,told⟩).clear.counts).last,.bool ((Nod.opened ⟨id,n,view,last,works,commit,log,acks,votes,told⟩).clear.counts).works,.int .i64 ((Nod.opened ⟨id,n,view,last,works,commit,log,acks,votes,told⟩).clear.counts).commit,v6,v7,v8],.int .i64 0])∧Res w' w.heap.size ((Nod.opened ⟨id,n,view,last,works,commit,log,acks,votes,told⟩).clear.counts) v6 v7 v8 v9∧Below w.heap.size w w':=by
 have hu26:=Tryz.underlying26
 have hu28:=Tryz.underlying28
 have hu56:=Tryz.underlying56
 have hu63:=Tryz.underlying63
 have HR:=Aside0.mk (right_of his)
 have hvs:votes.length≤900:=by have h1:=HR.out.count;have h2:=HR.out.n7;simp only at h1 h2;omega
 have hvt:∀ v,v∈votes→v.f3.length≤1000:=fun v hv=>by have h1:=(loggedB_len (votesB_all _ _ _ _ HR.out.votes v hv).2.2.2.2.2).1;omega
 obtain ⟨hw5,sz5,bx5,by5,be5,bl5⟩:=new4 w (.cells #[.int .i64 id,.int .i64 n,.int .i64 view,.int .i64 last,.bool works,.int .i64 commit,.slice A6 log.length c6,.slice A7 acks.length c7,.slice A8 votes.length c8] 26) (.cells #[.int .i64 0,.int .i64 0,.int .i64 0,.int .i64 0,.bool false,.int .i64 0,.slice none 0 0,.slice none 0 0,.slice none 0 0] 26) (.cells #[.int .i64 0] 32) (.cells #[.slice none 0 0] 31)
 have HW5:=Aside0.mk hw5
 have SZ5:=Aside0.mk sz5
 have BX5:=Aside0.mk bx5
 have BY5:=Aside0.mk (five_zero by5)
 have BE5:=Aside0.mk be5
 have BL5:=Aside0.mk bl5
 clear hw5 sz5 bx5 by5 be5 bl5
 have H21:=Aside0.mk (open_is id n view last works commit log acks votes told A6 A7 A8 c6 c7 c8 _ (Kd.C_below h6 HW5.out) l6 (Kd.C_below h7 HW5.out) l7 (Kd.C_below h8 HW5.out) l8 hl ha hvl hv his hvs hvt)
 have HGC:=Aside0.mk (clear_good HR.out.good)
 have HG2:=Aside0.mk (counts_good HGC.out)
 have HWK:=Aside0.mk (show ((Nod.opened ⟨id,n,view,last,works,commit,log,acks,votes,told⟩).clear.counts).works=true by rw [counts_works];exact hwk)
 clear hwk
 clear h6 l6 h7 l7 h8 l8 hl ha hvl hv his hvs hvt
 go_enter_defers Tryz.func12,Tryz.ntmps12
 go_wp2_with (first | (go_at_call 27;refine H21.out.mono ?_;rintro e w6 ⟨g,rfl,hN,hb6⟩;have HN6:=Aside0.mk hN;have HD6:=Aside0.mk (Did.refl hN);have HW6:=Aside0.mk (below_step HW5.out hb6);have SZ6:=Aside0.mk (show w.heap.size+4≤w6.heap.size by have h1:=hb6.size;have h2:=SZ5.out;omega);have BX6:=Aside0.mk ((hb6.block (w.heap.size) (by rw [SZ5.out];omega)).trans BX5.out);have BY6:=Aside0.mk ((hb6.block (w.heap.size+1) (by rw [SZ5.out];omega)).trans BY5.out);have BE6:=Aside0.mk ((hb6.block (w.heap.size+1+1) (by rw [SZ5.out];omega)).trans BE5.out);have BL6:=Aside0.mk ((hb6.block (w.heap.size+1+1+1) (by rw [SZ5.out];omega)).trans BL5.out);obtain ⟨D6,d6,D7,d7,D8,d8,D9,d9,hbg,-⟩:=hN.res2;have p0:w6.cell? ⟨g,0,none⟩=some (.int .i64 (Nod.opened ⟨id,n,view,last,works,commit,log,acks,votes,told⟩).id):=blk_cell hbg 0;have p1:w6.cell? ⟨g,1,none⟩=some (.int .i64 (Nod.opened ⟨id,n,view,last,works,commit,log,acks,votes,told⟩).n):=blk_cell hbg 1;have p2:w6.cell? ⟨g,2,none⟩=some (.int .i64 (Nod.opened ⟨id,n,view,last,works,commit,log,acks,votes,told⟩).view):=blk_cell hbg 2;have p3:w6.cell? ⟨g,3,none⟩=some (.int .i64 (Nod.opened ⟨id,n,view,last,works,commit,log,acks,votes,told⟩).last):=blk_cell hbg 3;have p4:w6.cell? ⟨g,4,none⟩=some (.bool (Nod.opened ⟨id,n,view,last,works,commit,log,acks,votes,told⟩).works):=blk_cell hbg 4;have p5:w6.cell? ⟨g,5,none⟩=some (.int .i64 (Nod.opened ⟨id,n,view,last,works,commit,log,acks,votes,told⟩).commit):=blk_cell hbg 5;have p6:w6.cell? ⟨g,6,none⟩=some (.slice D6 ((Nod.opened ⟨id,n,view,last,works,commit,log,acks,votes,told⟩)).log.length d6):=blk_cell hbg 6;have p7:w6.cell? ⟨g,7,none⟩=some (.slice D7 ((Nod.opened ⟨id,n,view,last,works,commit,log,acks,votes,told⟩)).acks.length d7):=blk_cell hbg 7;have p8:w6.cell? ⟨g,8,none⟩=some (.slice D8 ((Nod.opened ⟨id,n,view,last,works,commit,log,acks,votes,told⟩)).votes.length d8):=blk_cell hbg 8;have p9:w6.cell? ⟨g,9,none⟩=some (.slice D9 ((Nod.opened ⟨id,n,view,last,works,commit,log,acks,votes,told⟩)).told.length d9):=blk_cell hbg 9;clear hN hb6 hbg) | (go_at_call 52;refine (clear_did (Nod.opened ⟨id,n,view,last,works,commit,log,acks,votes,told⟩) w6 _ _ g _ (by have:=HR.out.good.n1;omega) HR.out.good.n2 HD6.out).mono ?_;rintro e w7 ⟨rfl,h7⟩;have HD7:=Aside0.mk h7;clear h7) | (go_at_call 29;refine (counts_did (Nod.opened ⟨id,n,view,last,works,commit,log,acks,votes,told⟩).clear w6 _ _ g _ HGC.out HD7.out).mono ?_;rintro e w8 ⟨rfl,h8⟩;have HD8:=Aside0.mk h8;obtain ⟨q6,q6',q7,q7',q8,q8',q9,q9',hb8,-⟩:=h8.1.res2;have s84:w8.cell? ⟨g,4,none⟩=some (.bool true):=(blk_cell hb8 4).trans (by show some (Value.bool ((Nod.opened ⟨id,n,view,last,works,commit,log,acks,votes,told⟩).clear.counts).works)=_;rw [HWK.out]);clear hb8;have HN8:=Aside0.mk h8.1;have HW8:=Aside0.mk (HW6.out.trans (below_weak h8.2.2.1 (by have:=SZ5.out;omega)));have BY8:=Aside0.mk ((h8.2.2.1.block (w.heap.size+1) (by rw [SZ5.out];omega)).trans BY6.out);have BE8:=Aside0.mk ((h8.2.2.1.block (w.heap.size+1+1) (by rw [SZ5.out];omega)).trans BE6.out);have BL8:=Aside0.mk ((h8.2.2.1.block (w.heap.size+1+1+1) (by rw [SZ5.out];omega)).trans BL6.out);obtain ⟨D6,d6,D7,d7,D8,d8,D9,d9,hbg,hres⟩:=HN8.out.res2;have HRES:=Aside0.mk hres;have BG8:=Aside0.mk hbg;have tg0:w8.cell? ⟨g,0,none⟩=some (.int .i64 ((Nod.opened ⟨id,n,view,last,works,commit,log,acks,votes,told⟩).clear.counts).id):=blk_cell hbg 0;have tg1:w8.cell? ⟨g,1,none⟩=some (.int .i64 ((Nod.opened ⟨id,n,view,last,works,commit,log,acks,votes,told⟩).clear.counts).n):=blk_cell hbg 1;have tg2:w8.cell? ⟨g,2,none⟩=some (.int .i64 ((Nod.opened ⟨id,n,view,last,works,commit,log,acks,votes,told⟩).clear.counts).view):=blk_cell hbg 2;have tg3:w8.cell? ⟨g,3,none⟩=some (.int .i64 ((Nod.opened ⟨id,n,view,last,works,commit,log,acks,votes,told⟩).clear.counts).last):=blk_cell hbg 3;have tg4:w8.cell? ⟨g,4,none⟩=some (.bool ((Nod.opened ⟨id,n,view,last,works,commit,log,acks,votes,told⟩).clear.counts).works):=blk_cell hbg 4;have tg5:w8.cell? ⟨g,5,none⟩=some (.int .i64 ((Nod.opened ⟨id,n,view,last,works,commit,log,acks,votes,told⟩).clear.counts).commit):=blk_cell hbg 5;have tg6:w8.cell? ⟨g,6,none⟩=some (.slice D6 (((Nod.opened ⟨id,n,view,last,works,commit,log,acks,votes,told⟩).clear.counts)).log.length d6):=blk_cell hbg 6;have tg7:w8.cell? ⟨g,7,none⟩=some (.slice D7 (((Nod.opened ⟨id,n,view,last,works,commit,log,acks,votes,told⟩).clear.counts)).acks.length d7):=blk_cell hbg 7;have tg8:w8.cell? ⟨g,8,none⟩=some (.slice D8 (((Nod.opened ⟨id,n,view,last,works,commit,log,acks,votes,told⟩).clear.counts)).votes.length d8):=blk_cell hbg 8;have tg9:w8.cell? ⟨g,9,none⟩=some (.slice D9 (((Nod.opened ⟨id,n,view,last,works,commit,log,acks,votes,told⟩).clear.counts)).told.length d9):=blk_cell hbg 9;have ty0:w8.cell? ⟨w.heap.size+1,0,none⟩=some (.int .i64 0):=(blk_cell BY8.out 0).trans rfl;have tf0:=blk_frozen BY8.out 0;have ty1:w8.cell? ⟨w.heap.size+1,1,none⟩=some (.int .i64 0):=(blk_cell BY8.out 1).trans rfl;have tf1:=blk_frozen BY8.out 1;have ty2:w8.cell? ⟨w.heap.size+1,2,none⟩=some (.int .i64 0):=(blk_cell BY8.out 2).trans rfl;have tf2:=blk_frozen BY8.out 2;have ty3:w8.cell? ⟨w.heap.size+1,3,none⟩=some (.int .i64 0):=(blk_cell BY8.out 3).trans rfl;have tf3:=blk_frozen BY8.out 3;have ty4:w8.cell? ⟨w.heap.size+1,4,none⟩=some (.bool false):=(blk_cell BY8.out 4).trans rfl;have tf4:=blk_frozen BY8.out 4;have ty5:w8.cell? ⟨w.heap.size+1,5,none⟩=some (.int .i64 0):=(blk_cell BY8.out 5).trans rfl;have tf5:=blk_frozen BY8.out 5;have ty6:w8.cell? ⟨w.heap.size+1,6,none⟩=some (.slice none 0 0):=(blk_cell BY8.out 6).trans rfl;have tf6:=blk_frozen BY8.out 6;have ty7:w8.cell? ⟨w.heap.size+1,7,none⟩=some (.slice none 0 0):=(blk_cell BY8.out 7).trans rfl;have tf7:=blk_frozen BY8.out 7;have ty8:w8.cell? ⟨w.heap.size+1,8,none⟩=some (.slice none 0 0):=(blk_cell BY8.out 8).trans rfl;have tf8:=blk_frozen BY8.out 8;have tl0:w8.cell? ⟨w.heap.size+1+1+1,0,none⟩=some (.slice none 0 0):=(blk_cell BL8.out 0).trans rfl;have tl1:=blk_frozen BL8.out 0;have te0:w8.cell? ⟨w.heap.size+1+1,0,none⟩=some (.int .i64 0):=(blk_cell BE8.out 0).trans rfl;have te1:=blk_frozen BE8.out 0;have HGE:=Aside0.mk (show w.heap.size+4≤g from by have h1:=HN8.out.ge;have h2:=SZ5.out;omega);have ney1:g≠w.heap.size+1:=(by have:=HGE.out;omega);have ney2:w.heap.size+1≠g:=(by have:=HGE.out;omega);have nel1:g≠w.heap.size+1+1+1:=(by have:=HGE.out;omega);have nel2:w.heap.size+1+1+1≠g:=(by have:=HGE.out;omega);have nee1:g≠w.heap.size+1+1:=(by have:=HGE.out;omega);have nee2:w.heap.size+1+1≠g:=(by have:=HGE.out;omega);have nyl:w.heap.size+1≠w.heap.size+1+1+1:=(by omega);have nye:w.heap.size+1≠w.heap.size+1+1:=(by omega);have nle:w.heap.size+1+1+1≠w.heap.size+1+1:=(by omega);have nyl':=nyl.symm;have nye':=nye.symm;have nle':=nle.symm;clear hbg hres;clear tg4;clear h8))
 generalize hl:w.heap.size+1+1+1=gl at *
 have HG_l:=Aside0.mk hl
 clear hl
 generalize he:w.heap.size+1+1=ge at *
 have HG_e:=Aside0.mk he
 clear he
 generalize hy:w.heap.size+1=gy at *
 have HG_y:=Aside0.mk hy
 clear hy
 have HST:=stores_ret2 (w7:=w8) BY8.out BE8.out nye (.int .i64 (((Nod.opened ⟨id,n,view,last,works,commit,log,acks,votes,told⟩).clear.counts)).id) (.int .i64 (((Nod.opened ⟨id,n,view,last,works,commit,log,acks,votes,told⟩).clear.counts)).n) (.int .i64 (((Nod.opened ⟨id,n,view,last,works,commit,log,acks,votes,told⟩).clear.counts)).view) (.int .i64 (((Nod.opened ⟨id,n,view,last,works,commit,log,acks,votes,told⟩).clear.counts)).last) (.bool true) (.int .i64 (((Nod.opened ⟨id,n,view,last,works,commit,log,acks,votes,told⟩).clear.counts)).commit) (.slice D6 (((Nod.opened ⟨id,n,view,last,works,commit,log,acks,votes,told⟩).clear.counts)).log.length d6) (.slice D7 (((Nod.opened ⟨id,n,view,last,works,commit,log,acks,votes,told⟩).clear.counts)).acks.length d7) (.slice D8 (((Nod.opened ⟨id,n,view,last,works,commit,log,acks,votes,told⟩).clear.counts)).votes.length d8) (.int .i64 0)
 refine leaves_cons (f:=26) (args:=#[.pointer (some ⟨gy,0,none⟩),.pointer (some ⟨gl,0,none⟩),.pointer (some ⟨ge,0,none⟩)]) (by simp) (by kernel_rfl) ?_
 refine (caught_idle ⟨gy,0,none⟩ ⟨gl,0,none⟩ ⟨ge,0,none⟩ _).mono ?_
 rintro e u' w9 ⟨rfl,rfl,rfl⟩
 have E1:=HG_e.out
 have E2:=HG_l.out
 have E3:=HG_y.out
 have E4:=SZ5.out
 refine ⟨_,results_2 rfl _ _ gy ge 26 _ (0,0) _ rfl rfl HST.1 rfl HST.2.1,_,_,_,_,by rw [HWK.out],(HRES.out _ (fun k hk hl hg=>HST.2.2.1 k (by omega) (by omega))).lower (by omega),HW8.out.trans (HST.2.2.2 _ (by omega) (by omega))⟩
end Go.Proofs.YtfpfpckocemmdaaGreat.P
