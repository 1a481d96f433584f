/- Part 29 of the walk. -/
import Derived.Test.YtfpfpckocemmdaaGreatCDoes28
set_option linter.unusedVariables false
set_option linter.unusedSimpArgs false
set_option maxHeartbeats 8000000
set_option maxRecDepth 100000
namespace Go.Proofs.YtfpfpckocemmdaaGreat.P
open Go.RowKit Go.Proofs.YtfpfpckocemmdaaGreatW.PrintWords Go.Proofs.YtfpfpckocemmdaaGreatW.PrintLast Go.Proofs.YtfpfpckocemmdaaGreatW.PrintMore
theorem timeout_prim (id n view last:Int) (works:Bool) (commit:Int) (log:List ByteArray) (acks:List Int) (votes:List S63) (told:List S28) (A6 A7 A8:Option Addr) (c6 c7 c8:Nat) (w:World) (h6:Kd.C Kd.string w A6 log.length log) (l6:log.length≤c6) (h7:Kd.C (Kd.int .i64) w A7 acks.length acks) (l7:acks.length≤c7) (h8:Kd.C k63 w A8 votes.length votes) (l8:votes.length≤c8)
  (hl:log.length < 4398046511104) (ha:acks.length < 4398046511104) (hvl:votes.length < 4398046511104) (hv:∀ v,v∈votes→v.f3.length < 4398046511104∧(Lit.int .i64 v.f0).wf=true)
  (his:isB ⟨id,n,view,last,works,commit,log,acks,votes,told⟩=true) (hv9:¬ view=1000000) (hpp:(((Nod.opened ⟨id,n,view,last,works,commit,log,acks,votes,told⟩).joins (view+1)).begin_).view % (((Nod.opened ⟨id,n,view,last,works,commit,log,acks,votes,told⟩).joins (view+1)).begin_).n=(((Nod.opened ⟨id,n,view,last,works,commit,log,acks,votes,told⟩).joins (view+1)).begin_).id) :
  Calls Tryz.prog 8 #[.agg #[.int .i64 id,.int .i64 n,.int .i64 view,.int .i64 last,.bool works,.int .i64 commit,.slice A6 log.length c6,.slice A7 acks.length c7,.slice A8 votes.length c8]] w fun e w'=>∃ v6 v7 v8 v9,e=.returned (.tuple #[.agg #[.int .i64 (((Nod.opened ⟨id,n,view,last,works,commit,log,acks,votes,told⟩).joins (view+1)).begin_).id,.int .i64 (((Nod.opened ⟨id,n,view,last,works,commit,log,acks,votes,told⟩).joins (view+1)).begin_).n,.int .i64 (((Nod.opened ⟨id,n,view,last,works,commit,log,acks,votes,told⟩).joins (view+1)).begin_).view,.int .i64 (((Nod.opened ⟨id,n,view,last,works,commit,log,acks,votes,told⟩).joins (view+1)).begin_).last,.bool (((Nod.opened ⟨id,n,view,last,works,commit,log,acks,votes,told⟩).joins (view+1)).begin_).works,.int .i64 (((Nod.opened ⟨id,n,view,last,works,commit,log,acks,votes,told⟩).joins (view+1)).begin_).commit,v6,v7,v8],v9,.int .i64 0])∧Res w' w.heap.size (((Nod.opened ⟨id,n,view,last,works,commit,log,acks,votes,told⟩).joins (view+1)).begin_) v6 v7 v8 v9∧Below w.heap.size w w':=by
 have hu26:=Tryz.underlying26
 have hu28:=Tryz.underlying28
 have hu56:=Tryz.underlying56
 have hu63:=Tryz.underlying63
 have HR:=Aside0.mk (right_of his)
 have hvs:votes.length≤900:=by have h1:=HR.out.count;have h2:=HR.out.n7;simp only at h1 h2;omega
 have hvt:∀ v,v∈votes→v.f3.length≤1000:=fun v hv=>by have h1:=(loggedB_len (votesB_all _ _ _ _ HR.out.votes v hv).2.2.2.2.2).1;omega
 obtain ⟨hw5,sz5,bx5,by5,bl5,be5⟩:=new4 w (.cells #[.int .i64 id,.int .i64 n,.int .i64 view,.int .i64 last,.bool works,.int .i64 commit,.slice A6 log.length c6,.slice A7 acks.length c7,.slice A8 votes.length c8] 26) (.cells #[.int .i64 0,.int .i64 0,.int .i64 0,.int .i64 0,.bool false,.int .i64 0,.slice none 0 0,.slice none 0 0,.slice none 0 0] 26) (.cells #[.slice none 0 0] 31) (.cells #[.int .i64 0] 32)
 have HW5:=Aside0.mk hw5
 have SZ5:=Aside0.mk sz5
 have BX5:=Aside0.mk bx5
 have BY5:=Aside0.mk (five_zero by5)
 have BL5:=Aside0.mk bl5
 have BE5:=Aside0.mk be5
 clear hw5 sz5 bx5 by5 bl5 be5
 have H21:=Aside0.mk (open_is id n view last works commit log acks votes told A6 A7 A8 c6 c7 c8 _ (Kd.C_below h6 HW5.out) l6 (Kd.C_below h7 HW5.out) l7 (Kd.C_below h8 HW5.out) l8 hl ha hvl hv his hvs hvt)
 have e1:(((Nod.opened ⟨id,n,view,last,works,commit,log,acks,votes,told⟩).view:Int)==1000000)=false:=beq_eq_false_iff_ne.mpr hv9
 have wv0:(Nod.opened ⟨id,n,view,last,works,commit,log,acks,votes,told⟩).view=view:=rfl
 have wv:IntKind.i64.wrap ((Nod.opened ⟨id,n,view,last,works,commit,log,acks,votes,told⟩).view+1)=view+1:=by have h1:=HR.out.view1;have h0:=HR.out.view0;simp only at h0 h1;rw [IntKind.wrap_i64,wv0];omega
 have wv2:wrap64 ((Nod.opened ⟨id,n,view,last,works,commit,log,acks,votes,told⟩).view+1)=view+1:=by have h1:=HR.out.view1;have h0:=HR.out.view0;simp only at h0 h1;rw [wv0];unfold wrap64;omega
 have HG1:=Aside0.mk (joins_good HR.out.good (view+1) (by have h0:=HR.out.view0;simp only at h0;omega))
 have HG2:=Aside0.mk (begin_good HG1.out (by have h7:=HR.out.n7;simp only at h7;show 0+Int.toNat n≤1000;omega))
 have HP2:=Aside0.mk (primary_of (((Nod.opened ⟨id,n,view,last,works,commit,log,acks,votes,told⟩).joins (view+1)).begin_).view (((Nod.opened ⟨id,n,view,last,works,commit,log,acks,votes,told⟩).joins (view+1)).begin_).n HG2.out.view HG2.out.n1)
 clear hv9 wv0
 have f1:(((((Nod.opened ⟨id,n,view,last,works,commit,log,acks,votes,told⟩).joins (view+1)).begin_).view % (((Nod.opened ⟨id,n,view,last,works,commit,log,acks,votes,told⟩).joins (view+1)).begin_).n)==(((Nod.opened ⟨id,n,view,last,works,commit,log,acks,votes,told⟩).joins (view+1)).begin_).id)=true:=beq_iff_eq.mpr hpp
 have f2:(((((Nod.opened ⟨id,n,view,last,works,commit,log,acks,votes,told⟩).joins (view+1)).begin_).view % (((Nod.opened ⟨id,n,view,last,works,commit,log,acks,votes,told⟩).joins (view+1)).begin_).n) != (((Nod.opened ⟨id,n,view,last,works,commit,log,acks,votes,told⟩).joins (view+1)).begin_).id)=false:=bne_eq_false_iff_eq.mpr hpp
 clear hpp
 clear h6 l6 h7 l7 h8 l8 hl ha hvl hv his hvs hvt
 go_enter_defers Tryz.func8,Tryz.ntmps8
 go_wp2_with (first | (go_at_call 27;refine H21.out.mono ?_;rintro e w6 ⟨g,rfl,hN,hb6⟩;have HN6:=Aside0.mk hN;have HD6:=Aside0.mk (Did.refl hN);have HW6:=Aside0.mk (below_step HW5.out hb6);have SZ6:=Aside0.mk (show w.heap.size+4≤w6.heap.size by have h1:=hb6.size;have h2:=SZ5.out;omega);have BX6:=Aside0.mk ((hb6.block (w.heap.size) (by rw [SZ5.out];omega)).trans BX5.out);have BY6:=Aside0.mk ((hb6.block (w.heap.size+1) (by rw [SZ5.out];omega)).trans BY5.out);have BL6:=Aside0.mk ((hb6.block (w.heap.size+1+1) (by rw [SZ5.out];omega)).trans BL5.out);have BE6:=Aside0.mk ((hb6.block (w.heap.size+1+1+1) (by rw [SZ5.out];omega)).trans BE5.out);obtain ⟨D6,d6,D7,d7,D8,d8,D9,d9,hbg,-⟩:=hN.res2;have p0:w6.cell? ⟨g,0,none⟩=some (.int .i64 (Nod.opened ⟨id,n,view,last,works,commit,log,acks,votes,told⟩).id):=blk_cell hbg 0;have p1:w6.cell? ⟨g,1,none⟩=some (.int .i64 (Nod.opened ⟨id,n,view,last,works,commit,log,acks,votes,told⟩).n):=blk_cell hbg 1;have p2:w6.cell? ⟨g,2,none⟩=some (.int .i64 (Nod.opened ⟨id,n,view,last,works,commit,log,acks,votes,told⟩).view):=blk_cell hbg 2;have p3:w6.cell? ⟨g,3,none⟩=some (.int .i64 (Nod.opened ⟨id,n,view,last,works,commit,log,acks,votes,told⟩).last):=blk_cell hbg 3;have p4:w6.cell? ⟨g,4,none⟩=some (.bool (Nod.opened ⟨id,n,view,last,works,commit,log,acks,votes,told⟩).works):=blk_cell hbg 4;have p5:w6.cell? ⟨g,5,none⟩=some (.int .i64 (Nod.opened ⟨id,n,view,last,works,commit,log,acks,votes,told⟩).commit):=blk_cell hbg 5;have p6:w6.cell? ⟨g,6,none⟩=some (.slice D6 ((Nod.opened ⟨id,n,view,last,works,commit,log,acks,votes,told⟩)).log.length d6):=blk_cell hbg 6;have p7:w6.cell? ⟨g,7,none⟩=some (.slice D7 ((Nod.opened ⟨id,n,view,last,works,commit,log,acks,votes,told⟩)).acks.length d7):=blk_cell hbg 7;have p8:w6.cell? ⟨g,8,none⟩=some (.slice D8 ((Nod.opened ⟨id,n,view,last,works,commit,log,acks,votes,told⟩)).votes.length d8):=blk_cell hbg 8;have p9:w6.cell? ⟨g,9,none⟩=some (.slice D9 ((Nod.opened ⟨id,n,view,last,works,commit,log,acks,votes,told⟩)).told.length d9):=blk_cell hbg 9;clear hN hb6 hbg) | (go_at_call 34;refine (joins_did (Nod.opened ⟨id,n,view,last,works,commit,log,acks,votes,told⟩) (view+1) w6 _ _ g _ HR.out.good HD6.out).mono ?_;rintro e w7 ⟨rfl,h7⟩;have HD7:=Aside0.mk h7;clear h7) | (go_at_call 35;refine (begin_did ((Nod.opened ⟨id,n,view,last,works,commit,log,acks,votes,told⟩).joins (view+1)) w6 _ _ g _ HG1.out HD7.out).mono ?_;rintro e w8 ⟨rfl,h8⟩;have HD8:=Aside0.mk h8;obtain ⟨D6,d6,D7,d7,D8,d8,D9,d9,hb8,-⟩:=h8.1.res2;have BG8:=Aside0.mk hb8;have s80:w8.cell? ⟨g,0,none⟩=some (.int .i64 (((Nod.opened ⟨id,n,view,last,works,commit,log,acks,votes,told⟩).joins (view+1)).begin_).id):=blk_cell hb8 0;have s81:w8.cell? ⟨g,1,none⟩=some (.int .i64 (((Nod.opened ⟨id,n,view,last,works,commit,log,acks,votes,told⟩).joins (view+1)).begin_).n):=blk_cell hb8 1;have s82:w8.cell? ⟨g,2,none⟩=some (.int .i64 (((Nod.opened ⟨id,n,view,last,works,commit,log,acks,votes,told⟩).joins (view+1)).begin_).view):=blk_cell hb8 2;clear h8 hb8))
 go_region_held3 (fun W=>W.cell? ⟨g,1,none⟩=some (.int .i64 (((Nod.opened ⟨id,n,view,last,works,commit,log,acks,votes,told⟩).joins (view+1)).begin_).n)∧W.cell? ⟨g,2,none⟩=some (.int .i64 (((Nod.opened ⟨id,n,view,last,works,commit,log,acks,votes,told⟩).joins (view+1)).begin_).view))
  (first | exact ⟨s81,s82⟩ | go_keep)
  (first | (refine x_step_call rfl Tryz.func36 (by kernel_rfl) rfl #[.int .i64 (((Nod.opened ⟨id,n,view,last,works,commit,log,acks,votes,told⟩).joins (view+1)).begin_).view,.int .i64 (((Nod.opened ⟨id,n,view,last,works,commit,log,acks,votes,told⟩).joins (view+1)).begin_).n] rfl (by simp [Act.eval,Act.put]) ?_;refine (quorum_Primary.calls (((Nod.opened ⟨id,n,view,last,works,commit,log,acks,votes,told⟩).joins (view+1)).begin_).view (((Nod.opened ⟨id,n,view,last,works,commit,log,acks,votes,told⟩).joins (view+1)).begin_).n _ true _ HP2.out).mono ?_;rintro e w' ⟨rfl,⟨nd,rfl⟩⟩;refine ⟨_,rfl,?_⟩))
 rename_i hh
 clear hh
 go_wp2
 have h10:=HD8.out.drewN (1+nd)
 clear s80 s81 s82
 generalize w8.drewN (1+nd)=w10 at *
 have HN10:=Aside0.mk h10.1
 have HW10:=Aside0.mk (HW6.out.trans (below_weak h10.2.2.1 (by have:=SZ5.out;omega)))
 have BY10:=Aside0.mk ((h10.2.2.1.block (w.heap.size+1) (by rw [SZ5.out];omega)).trans BY6.out)
 have BL10:=Aside0.mk ((h10.2.2.1.block (w.heap.size+1+1) (by rw [SZ5.out];omega)).trans BL6.out)
 have BE10:=Aside0.mk ((h10.2.2.1.block (w.heap.size+1+1+1) (by rw [SZ5.out];omega)).trans BE6.out)
 obtain ⟨D6,d6,D7,d7,D8,d8,D9,d9,hbg,hres⟩:=HN10.out.res2
 have HRES:=Aside0.mk hres
 have BG10:=Aside0.mk hbg
 have tg0:w10.cell? ⟨g,0,none⟩=some (.int .i64 (((Nod.opened ⟨id,n,view,last,works,commit,log,acks,votes,told⟩).joins (view+1)).begin_).id):=blk_cell hbg 0
 have tg1:w10.cell? ⟨g,1,none⟩=some (.int .i64 (((Nod.opened ⟨id,n,view,last,works,commit,log,acks,votes,told⟩).joins (view+1)).begin_).n):=blk_cell hbg 1
 have tg2:w10.cell? ⟨g,2,none⟩=some (.int .i64 (((Nod.opened ⟨id,n,view,last,works,commit,log,acks,votes,told⟩).joins (view+1)).begin_).view):=blk_cell hbg 2
 have tg3:w10.cell? ⟨g,3,none⟩=some (.int .i64 (((Nod.opened ⟨id,n,view,last,works,commit,log,acks,votes,told⟩).joins (view+1)).begin_).last):=blk_cell hbg 3
 have tg4:w10.cell? ⟨g,4,none⟩=some (.bool (((Nod.opened ⟨id,n,view,last,works,commit,log,acks,votes,told⟩).joins (view+1)).begin_).works):=blk_cell hbg 4
 have tg5:w10.cell? ⟨g,5,none⟩=some (.int .i64 (((Nod.opened ⟨id,n,view,last,works,commit,log,acks,votes,told⟩).joins (view+1)).begin_).commit):=blk_cell hbg 5
 have tg6:w10.cell? ⟨g,6,none⟩=some (.slice D6 ((((Nod.opened ⟨id,n,view,last,works,commit,log,acks,votes,told⟩).joins (view+1)).begin_)).log.length d6):=blk_cell hbg 6
 have tg7:w10.cell? ⟨g,7,none⟩=some (.slice D7 ((((Nod.opened ⟨id,n,view,last,works,commit,log,acks,votes,told⟩).joins (view+1)).begin_)).acks.length d7):=blk_cell hbg 7
 have tg8:w10.cell? ⟨g,8,none⟩=some (.slice D8 ((((Nod.opened ⟨id,n,view,last,works,commit,log,acks,votes,told⟩).joins (view+1)).begin_)).votes.length d8):=blk_cell hbg 8
 have tg9:w10.cell? ⟨g,9,none⟩=some (.slice D9 ((((Nod.opened ⟨id,n,view,last,works,commit,log,acks,votes,told⟩).joins (view+1)).begin_)).told.length d9):=blk_cell hbg 9
 have ty0:w10.cell? ⟨w.heap.size+1,0,none⟩=some (.int .i64 0):=(blk_cell BY10.out 0).trans rfl
 have tf0:=blk_frozen BY10.out 0
 have ty1:w10.cell? ⟨w.heap.size+1,1,none⟩=some (.int .i64 0):=(blk_cell BY10.out 1).trans rfl
 have tf1:=blk_frozen BY10.out 1
 have ty2:w10.cell? ⟨w.heap.size+1,2,none⟩=some (.int .i64 0):=(blk_cell BY10.out 2).trans rfl
 have tf2:=blk_frozen BY10.out 2
 have ty3:w10.cell? ⟨w.heap.size+1,3,none⟩=some (.int .i64 0):=(blk_cell BY10.out 3).trans rfl
 have tf3:=blk_frozen BY10.out 3
 have ty4:w10.cell? ⟨w.heap.size+1,4,none⟩=some (.bool false):=(blk_cell BY10.out 4).trans rfl
 have tf4:=blk_frozen BY10.out 4
 have ty5:w10.cell? ⟨w.heap.size+1,5,none⟩=some (.int .i64 0):=(blk_cell BY10.out 5).trans rfl
 have tf5:=blk_frozen BY10.out 5
 have ty6:w10.cell? ⟨w.heap.size+1,6,none⟩=some (.slice none 0 0):=(blk_cell BY10.out 6).trans rfl
 have tf6:=blk_frozen BY10.out 6
 have ty7:w10.cell? ⟨w.heap.size+1,7,none⟩=some (.slice none 0 0):=(blk_cell BY10.out 7).trans rfl
 have tf7:=blk_frozen BY10.out 7
 have ty8:w10.cell? ⟨w.heap.size+1,8,none⟩=some (.slice none 0 0):=(blk_cell BY10.out 8).trans rfl
 have tf8:=blk_frozen BY10.out 8
 have tl0:w10.cell? ⟨w.heap.size+1+1,0,none⟩=some (.slice none 0 0):=(blk_cell BL10.out 0).trans rfl
 have tl1:=blk_frozen BL10.out 0
 have te0:w10.cell? ⟨w.heap.size+1+1+1,0,none⟩=some (.int .i64 0):=(blk_cell BE10.out 0).trans rfl
 have te1:=blk_frozen BE10.out 0
 have HGE:=Aside0.mk (show w.heap.size+4≤g from by have h1:=HN10.out.ge;have h2:=SZ5.out;omega)
 have ney1:g≠w.heap.size+1:=(by have:=HGE.out;omega)
 have ney2:w.heap.size+1≠g:=(by have:=HGE.out;omega)
 have nel1:g≠w.heap.size+1+1:=(by have:=HGE.out;omega)
 have nel2:w.heap.size+1+1≠g:=(by have:=HGE.out;omega)
 have nee1:g≠w.heap.size+1+1+1:=(by have:=HGE.out;omega)
 have nee2:w.heap.size+1+1+1≠g:=(by have:=HGE.out;omega)
 have nyl:w.heap.size+1≠w.heap.size+1+1:=(by omega)
 have nye:w.heap.size+1≠w.heap.size+1+1+1:=(by omega)
 have nle:w.heap.size+1+1≠w.heap.size+1+1+1:=(by omega)
 have nyl':=nyl.symm
 have nye':=nye.symm
 have nle':=nle.symm
 clear hbg hres
 clear h10
 generalize he:w.heap.size+1+1+1=ge at *
 have HG_e:=Aside0.mk he
 clear he
 generalize hl:w.heap.size+1+1=gl at *
 have HG_l:=Aside0.mk hl
 clear hl
 generalize hy:w.heap.size+1=gy at *
 have HG_y:=Aside0.mk hy
 clear hy
 go_region
 all_goals
  go_wp2
  have HST:=stores_ret (w7:=w10) BY10.out BL10.out BE10.out nyl nye nle (.int .i64 ((((Nod.opened ⟨id,n,view,last,works,commit,log,acks,votes,told⟩).joins (view+1)).begin_)).id) (.int .i64 ((((Nod.opened ⟨id,n,view,last,works,commit,log,acks,votes,told⟩).joins (view+1)).begin_)).n) (.int .i64 ((((Nod.opened ⟨id,n,view,last,works,commit,log,acks,votes,told⟩).joins (view+1)).begin_)).view) (.int .i64 ((((Nod.opened ⟨id,n,view,last,works,commit,log,acks,votes,told⟩).joins (view+1)).begin_)).last) (.bool ((((Nod.opened ⟨id,n,view,last,works,commit,log,acks,votes,told⟩).joins (view+1)).begin_)).works) (.int .i64 ((((Nod.opened ⟨id,n,view,last,works,commit,log,acks,votes,told⟩).joins (view+1)).begin_)).commit) (.slice D6 ((((Nod.opened ⟨id,n,view,last,works,commit,log,acks,votes,told⟩).joins (view+1)).begin_)).log.length d6) (.slice D7 ((((Nod.opened ⟨id,n,view,last,works,commit,log,acks,votes,told⟩).joins (view+1)).begin_)).acks.length d7) (.slice D8 ((((Nod.opened ⟨id,n,view,last,works,commit,log,acks,votes,told⟩).joins (view+1)).begin_)).votes.length d8) (.slice D9 ((((Nod.opened ⟨id,n,view,last,works,commit,log,acks,votes,told⟩).joins (view+1)).begin_)).told.length d9) (.int .i64 0)
  refine leaves_cons (f:=26) (args:=#[.pointer (some ⟨gy,0,none⟩),.pointer (some ⟨gl,0,none⟩),.pointer (some ⟨ge,0,none⟩)]) (by simp) (by kernel_rfl) ?_
  refine (caught_idle ⟨gy,0,none⟩ ⟨gl,0,none⟩ ⟨ge,0,none⟩ _).mono ?_
  rintro e u' w9 ⟨rfl,rfl,rfl⟩
  have E1:=HG_e.out
  have E2:=HG_l.out
  have E3:=HG_y.out
  have E4:=SZ5.out
  refine ⟨_,results_8 rfl _ _ gy gl ge 26 _ (0,0) _ _ rfl rfl rfl HST.1 rfl HST.2.1 HST.2.2.1,_,_,_,_,rfl,(HRES.out _ (fun k hk hl hg=>HST.2.2.2.1 k (by omega) (by omega) (by omega))).lower (by omega),HW10.out.trans (HST.2.2.2.2 _ (by omega) (by omega) (by omega))⟩
end Go.Proofs.YtfpfpckocemmdaaGreat.P
