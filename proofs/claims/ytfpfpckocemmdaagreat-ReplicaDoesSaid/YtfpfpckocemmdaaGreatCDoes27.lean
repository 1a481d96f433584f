/- Part 27 of the walk. -/
import Derived.Test.YtfpfpckocemmdaaGreatCDoes26
set_option linter.unusedVariables false
set_option linter.unusedSimpArgs false
set_option maxHeartbeats 8000000
set_option maxRecDepth 100000
namespace Go.Proofs.YtfpfpckocemmdaaGreat.P
open Go.RowKit Go.Proofs.YtfpfpckocemmdaaGreatW.PrintWords Go.Proofs.YtfpfpckocemmdaaGreatW.PrintLast Go.Proofs.YtfpfpckocemmdaaGreatW.PrintMore
theorem ask_view (id n view last:Int) (works:Bool) (commit:Int) (log:List ByteArray) (acks:List Int) (votes:List S63) (told:List S28) (A6 A7 A8:Option Addr) (c6 c7 c8:Nat) (w:World) (h6:Kd.C Kd.string w A6 log.length log) (l6:log.length≤c6) (h7:Kd.C (Kd.int .i64) w A7 acks.length acks) (l7:acks.length≤c7) (h8:Kd.C k63 w A8 votes.length votes) (l8:votes.length≤c8)
  (hl:log.length < 4398046511104) (ha:acks.length < 4398046511104) (hvl:votes.length < 4398046511104) (hv:∀ v,v∈votes→v.f3.length < 4398046511104∧(Lit.int .i64 v.f0).wf=true) (s:ByteArray)
  (his:isB ⟨id,n,view,last,works,commit,log,acks,votes,told⟩=true) (hld:(Nod.opened ⟨id,n,view,last,works,commit,log,acks,votes,told⟩).leads=false) :
  Calls Tryz.prog 6 #[.agg #[.int .i64 id,.int .i64 n,.int .i64 view,.int .i64 last,.bool works,.int .i64 commit,.slice A6 log.length c6,.slice A7 acks.length c7,.slice A8 votes.length c8],.string s] w fun e w'=>∃ v6 v7 v8 v9,e=.returned (.tuple #[.agg #[.int .i64 zeroNod.id,.int .i64 zeroNod.n,.int .i64 zeroNod.view,.int .i64 zeroNod.last,.bool zeroNod.works,.int .i64 zeroNod.commit,v6,v7,v8],v9,.int .i64 220])∧Res w' w.heap.size zeroNod v6 v7 v8 v9∧Below w.heap.size w w':=by
 have hu26:=Tryz.underlying26
 have hu28:=Tryz.underlying28
 have hu56:=Tryz.underlying56
 have hu63:=Tryz.underlying63
 have HR:=Aside0.mk (right_of his)
 have hvs:votes.length≤900:=by have h1:=HR.out.count;have h2:=HR.out.n7;simp only at h1 h2;omega
 have hvt:∀ v,v∈votes→v.f3.length≤1000:=fun v hv=>by have h1:=(loggedB_len (votesB_all _ _ _ _ HR.out.votes v hv).2.2.2.2.2).1;omega
 obtain ⟨hw5,sz5,bx5,by5,bl5,be5⟩:=new4 w (.cells #[.int .i64 id,.int .i64 n,.int .i64 view,.int .i64 last,.bool works,.int .i64 commit,.slice A6 log.length c6,.slice A7 acks.length c7,.slice A8 votes.length c8] 26) (.cells #[.int .i64 0,.int .i64 0,.int .i64 0,.int .i64 0,.bool false,.int .i64 0,.slice none 0 0,.slice none 0 0,.slice none 0 0] 26) (.cells #[.slice none 0 0] 31) (.cells #[.int .i64 0] 32)
 have HW5:=Aside0.mk hw5
 have SZ5:=Aside0.mk sz5
 have BX5:=Aside0.mk bx5
 have BY5:=Aside0.mk (five_zero by5)
 have BL5:=Aside0.mk bl5
 have BE5:=Aside0.mk be5
 clear hw5 sz5 bx5 by5 bl5 be5
 have H21:=Aside0.mk (open_is id n view last works commit log acks votes told A6 A7 A8 c6 c7 c8 _ (Kd.C_below h6 HW5.out) l6 (Kd.C_below h7 HW5.out) l7 (Kd.C_below h8 HW5.out) l8 hl ha hvl hv his hvs hvt)
 have HLD:=Aside0.mk hld
 clear hld
 have hpn:∀ W:World,(Instr.panic (.iface 32 (.int .i64 220))).run Tryz.prog W=.halt (.panic (.iface 32 (.int .i64 220))) W:=fun _=>rfl
 clear h6 l6 h7 l7 h8 l8 hl ha hvl hv his hvs hvt
 go_enter_defers Tryz.func6,Tryz.ntmps6
 go_wp2_with (first | (go_at_call 27;refine H21.out.mono ?_;rintro e w6 ⟨g,rfl,hN,hb6⟩;have HN6:=Aside0.mk hN;have HD6:=Aside0.mk (Did.refl hN);have HW6:=Aside0.mk (below_step HW5.out hb6);have SZ6:=Aside0.mk (show w.heap.size+4≤w6.heap.size by have h1:=hb6.size;have h2:=SZ5.out;omega);have BX6:=Aside0.mk ((hb6.block (w.heap.size) (by rw [SZ5.out];omega)).trans BX5.out);have BY6:=Aside0.mk ((hb6.block (w.heap.size+1) (by rw [SZ5.out];omega)).trans BY5.out);have BL6:=Aside0.mk ((hb6.block (w.heap.size+1+1) (by rw [SZ5.out];omega)).trans BL5.out);have BE6:=Aside0.mk ((hb6.block (w.heap.size+1+1+1) (by rw [SZ5.out];omega)).trans BE5.out);obtain ⟨D6,d6,D7,d7,D8,d8,D9,d9,hbg,-⟩:=hN.res2;have p0:w6.cell? ⟨g,0,none⟩=some (.int .i64 (Nod.opened ⟨id,n,view,last,works,commit,log,acks,votes,told⟩).id):=blk_cell hbg 0;have p1:w6.cell? ⟨g,1,none⟩=some (.int .i64 (Nod.opened ⟨id,n,view,last,works,commit,log,acks,votes,told⟩).n):=blk_cell hbg 1;have p2:w6.cell? ⟨g,2,none⟩=some (.int .i64 (Nod.opened ⟨id,n,view,last,works,commit,log,acks,votes,told⟩).view):=blk_cell hbg 2;have p3:w6.cell? ⟨g,3,none⟩=some (.int .i64 (Nod.opened ⟨id,n,view,last,works,commit,log,acks,votes,told⟩).last):=blk_cell hbg 3;have p4:w6.cell? ⟨g,4,none⟩=some (.bool (Nod.opened ⟨id,n,view,last,works,commit,log,acks,votes,told⟩).works):=blk_cell hbg 4;have p5:w6.cell? ⟨g,5,none⟩=some (.int .i64 (Nod.opened ⟨id,n,view,last,works,commit,log,acks,votes,told⟩).commit):=blk_cell hbg 5;have p6:w6.cell? ⟨g,6,none⟩=some (.slice D6 ((Nod.opened ⟨id,n,view,last,works,commit,log,acks,votes,told⟩)).log.length d6):=blk_cell hbg 6;have p7:w6.cell? ⟨g,7,none⟩=some (.slice D7 ((Nod.opened ⟨id,n,view,last,works,commit,log,acks,votes,told⟩)).acks.length d7):=blk_cell hbg 7;have p8:w6.cell? ⟨g,8,none⟩=some (.slice D8 ((Nod.opened ⟨id,n,view,last,works,commit,log,acks,votes,told⟩)).votes.length d8):=blk_cell hbg 8;have p9:w6.cell? ⟨g,9,none⟩=some (.slice D9 ((Nod.opened ⟨id,n,view,last,works,commit,log,acks,votes,told⟩)).told.length d9):=blk_cell hbg 9;have HLC:=Aside0.mk (leads_calls (Nod.opened ⟨id,n,view,last,works,commit,log,acks,votes,told⟩) w6 g p0 p1 p2 p4 HR.out.good.view HR.out.good.n1);clear hN hb6 hbg) | (go_at_call 28;have hlc:=HLC.out;rw [HLD.out] at hlc;refine hlc.mono ?_;rintro e w7 ⟨rfl,⟨nd,rfl⟩⟩))
 refine leaves_cons (f:=26) (args:=#[.pointer (some ⟨w.heap.size+1,0,none⟩),.pointer (some ⟨w.heap.size+1+1,0,none⟩),.pointer (some ⟨w.heap.size+1+1+1,0,none⟩)]) (by simp) (by kernel_rfl) ?_
 refine (caught_panicking (w.heap.size+1) (w.heap.size+1+1) (w.heap.size+1+1+1) 220 [] _ (show (w6.drewN _).heap[_]?=_ from BY6.out) (show (w6.drewN _).heap[_]?=_ from BL6.out) (show (w6.drewN _).heap[_]?=_ from BE6.out) (by omega) (by omega) (by omega)).mono ?_
 rintro e u' w9 ⟨rfl,rfl,ky,kl,ke,kb⟩
 refine ⟨_,results_8 rfl _ _ (w.heap.size+1) (w.heap.size+1+1) (w.heap.size+1+1+1) 26 zeroNode (0,0) (.slice none 0 0) 220 rfl rfl rfl ky rfl ((blk_cell kl 0).trans rfl) ((blk_cell ke 0).trans rfl),.slice none 0 0,.slice none 0 0,.slice none 0 0,.slice none 0 0,rfl,res_zero _ _,?_⟩
 exact (pw_below_drewN HW6.out _).trans (kb w.heap.size (by omega) (by omega) (by omega))
theorem ask_full (id n view last:Int) (works:Bool) (commit:Int) (log:List ByteArray) (acks:List Int) (votes:List S63) (told:List S28) (A6 A7 A8:Option Addr) (c6 c7 c8:Nat) (w:World) (h6:Kd.C Kd.string w A6 log.length log) (l6:log.length≤c6) (h7:Kd.C (Kd.int .i64) w A7 acks.length acks) (l7:acks.length≤c7) (h8:Kd.C k63 w A8 votes.length votes) (l8:votes.length≤c8)
  (hl:log.length < 4398046511104) (ha:acks.length < 4398046511104) (hvl:votes.length < 4398046511104) (hv:∀ v,v∈votes→v.f3.length < 4398046511104∧(Lit.int .i64 v.f0).wf=true) (s:ByteArray)
  (his:isB ⟨id,n,view,last,works,commit,log,acks,votes,told⟩=true) (hld:(Nod.opened ⟨id,n,view,last,works,commit,log,acks,votes,told⟩).leads=true) (hf:((Nod.opened ⟨id,n,view,last,works,commit,log,acks,votes,told⟩).log.length:Int)=60) :
  Calls Tryz.prog 6 #[.agg #[.int .i64 id,.int .i64 n,.int .i64 view,.int .i64 last,.bool works,.int .i64 commit,.slice A6 log.length c6,.slice A7 acks.length c7,.slice A8 votes.length c8],.string s] w fun e w'=>∃ v6 v7 v8 v9,e=.returned (.tuple #[.agg #[.int .i64 zeroNod.id,.int .i64 zeroNod.n,.int .i64 zeroNod.view,.int .i64 zeroNod.last,.bool zeroNod.works,.int .i64 zeroNod.commit,v6,v7,v8],v9,.int .i64 2])∧Res w' w.heap.size zeroNod v6 v7 v8 v9∧Below w.heap.size w w':=by
 have hu26:=Tryz.underlying26
 have hu28:=Tryz.underlying28
 have hu56:=Tryz.underlying56
 have hu63:=Tryz.underlying63
 have HR:=Aside0.mk (right_of his)
 have hvs:votes.length≤900:=by have h1:=HR.out.count;have h2:=HR.out.n7;simp only at h1 h2;omega
 have hvt:∀ v,v∈votes→v.f3.length≤1000:=fun v hv=>by have h1:=(loggedB_len (votesB_all _ _ _ _ HR.out.votes v hv).2.2.2.2.2).1;omega
 obtain ⟨hw5,sz5,bx5,by5,bl5,be5⟩:=new4 w (.cells #[.int .i64 id,.int .i64 n,.int .i64 view,.int .i64 last,.bool works,.int .i64 commit,.slice A6 log.length c6,.slice A7 acks.length c7,.slice A8 votes.length c8] 26) (.cells #[.int .i64 0,.int .i64 0,.int .i64 0,.int .i64 0,.bool false,.int .i64 0,.slice none 0 0,.slice none 0 0,.slice none 0 0] 26) (.cells #[.slice none 0 0] 31) (.cells #[.int .i64 0] 32)
 have HW5:=Aside0.mk hw5
 have SZ5:=Aside0.mk sz5
 have BX5:=Aside0.mk bx5
 have BY5:=Aside0.mk (five_zero by5)
 have BL5:=Aside0.mk bl5
 have BE5:=Aside0.mk be5
 clear hw5 sz5 bx5 by5 bl5 be5
 have H21:=Aside0.mk (open_is id n view last works commit log acks votes told A6 A7 A8 c6 c7 c8 _ (Kd.C_below h6 HW5.out) l6 (Kd.C_below h7 HW5.out) l7 (Kd.C_below h8 HW5.out) l8 hl ha hvl hv his hvs hvt)
 have HLD:=Aside0.mk hld
 have l1:(((Nod.opened ⟨id,n,view,last,works,commit,log,acks,votes,told⟩).log.length:Int)==60)=true:=beq_iff_eq.mpr hf
 clear hld hf
 have hpn:∀ W:World,(Instr.panic (.iface 32 (.int .i64 2))).run Tryz.prog W=.halt (.panic (.iface 32 (.int .i64 2))) W:=fun _=>rfl
 clear h6 l6 h7 l7 h8 l8 hl ha hvl hv his hvs hvt
 go_enter_defers Tryz.func6,Tryz.ntmps6
 go_wp2_with (first | (go_at_call 27;refine H21.out.mono ?_;rintro e w6 ⟨g,rfl,hN,hb6⟩;have HN6:=Aside0.mk hN;have HD6:=Aside0.mk (Did.refl hN);have HW6:=Aside0.mk (below_step HW5.out hb6);have SZ6:=Aside0.mk (show w.heap.size+4≤w6.heap.size by have h1:=hb6.size;have h2:=SZ5.out;omega);have BX6:=Aside0.mk ((hb6.block (w.heap.size) (by rw [SZ5.out];omega)).trans BX5.out);have BY6:=Aside0.mk ((hb6.block (w.heap.size+1) (by rw [SZ5.out];omega)).trans BY5.out);have BL6:=Aside0.mk ((hb6.block (w.heap.size+1+1) (by rw [SZ5.out];omega)).trans BL5.out);have BE6:=Aside0.mk ((hb6.block (w.heap.size+1+1+1) (by rw [SZ5.out];omega)).trans BE5.out);obtain ⟨D6,d6,D7,d7,D8,d8,D9,d9,hbg,-⟩:=hN.res2;have p0:w6.cell? ⟨g,0,none⟩=some (.int .i64 (Nod.opened ⟨id,n,view,last,works,commit,log,acks,votes,told⟩).id):=blk_cell hbg 0;have p1:w6.cell? ⟨g,1,none⟩=some (.int .i64 (Nod.opened ⟨id,n,view,last,works,commit,log,acks,votes,told⟩).n):=blk_cell hbg 1;have p2:w6.cell? ⟨g,2,none⟩=some (.int .i64 (Nod.opened ⟨id,n,view,last,works,commit,log,acks,votes,told⟩).view):=blk_cell hbg 2;have p3:w6.cell? ⟨g,3,none⟩=some (.int .i64 (Nod.opened ⟨id,n,view,last,works,commit,log,acks,votes,told⟩).last):=blk_cell hbg 3;have p4:w6.cell? ⟨g,4,none⟩=some (.bool (Nod.opened ⟨id,n,view,last,works,commit,log,acks,votes,told⟩).works):=blk_cell hbg 4;have p5:w6.cell? ⟨g,5,none⟩=some (.int .i64 (Nod.opened ⟨id,n,view,last,works,commit,log,acks,votes,told⟩).commit):=blk_cell hbg 5;have p6:w6.cell? ⟨g,6,none⟩=some (.slice D6 ((Nod.opened ⟨id,n,view,last,works,commit,log,acks,votes,told⟩)).log.length d6):=blk_cell hbg 6;have p7:w6.cell? ⟨g,7,none⟩=some (.slice D7 ((Nod.opened ⟨id,n,view,last,works,commit,log,acks,votes,told⟩)).acks.length d7):=blk_cell hbg 7;have p8:w6.cell? ⟨g,8,none⟩=some (.slice D8 ((Nod.opened ⟨id,n,view,last,works,commit,log,acks,votes,told⟩)).votes.length d8):=blk_cell hbg 8;have p9:w6.cell? ⟨g,9,none⟩=some (.slice D9 ((Nod.opened ⟨id,n,view,last,works,commit,log,acks,votes,told⟩)).told.length d9):=blk_cell hbg 9;have HLC:=Aside0.mk (leads_calls (Nod.opened ⟨id,n,view,last,works,commit,log,acks,votes,told⟩) w6 g p0 p1 p2 p4 HR.out.good.view HR.out.good.n1);clear hN hb6 hbg) | (go_at_call 28;have hlc:=HLC.out;rw [HLD.out] at hlc;refine hlc.mono ?_;rintro e w7 ⟨rfl,⟨nd,rfl⟩⟩))
 refine leaves_cons (f:=26) (args:=#[.pointer (some ⟨w.heap.size+1,0,none⟩),.pointer (some ⟨w.heap.size+1+1,0,none⟩),.pointer (some ⟨w.heap.size+1+1+1,0,none⟩)]) (by simp) (by kernel_rfl) ?_
 refine (caught_panicking (w.heap.size+1) (w.heap.size+1+1) (w.heap.size+1+1+1) 2 [] _ (show (w6.drewN _).heap[_]?=_ from BY6.out) (show (w6.drewN _).heap[_]?=_ from BL6.out) (show (w6.drewN _).heap[_]?=_ from BE6.out) (by omega) (by omega) (by omega)).mono ?_
 rintro e u' w9 ⟨rfl,rfl,ky,kl,ke,kb⟩
 refine ⟨_,results_8 rfl _ _ (w.heap.size+1) (w.heap.size+1+1) (w.heap.size+1+1+1) 26 zeroNode (0,0) (.slice none 0 0) 2 rfl rfl rfl ky rfl ((blk_cell kl 0).trans rfl) ((blk_cell ke 0).trans rfl),.slice none 0 0,.slice none 0 0,.slice none 0 0,.slice none 0 0,rfl,res_zero _ _,?_⟩
 exact (pw_below_drewN HW6.out _).trans (kb w.heap.size (by omega) (by omega) (by omega))
theorem ask_long (id n view last:Int) (works:Bool) (commit:Int) (log:List ByteArray) (acks:List Int) (votes:List S63) (told:List S28) (A6 A7 A8:Option Addr) (c6 c7 c8:Nat) (w:World) (h6:Kd.C Kd.string w A6 log.length log) (l6:log.length≤c6) (h7:Kd.C (Kd.int .i64) w A7 acks.length acks) (l7:acks.length≤c7) (h8:Kd.C k63 w A8 votes.length votes) (l8:votes.length≤c8)
  (hl:log.length < 4398046511104) (ha:acks.length < 4398046511104) (hvl:votes.length < 4398046511104) (hv:∀ v,v∈votes→v.f3.length < 4398046511104∧(Lit.int .i64 v.f0).wf=true) (s:ByteArray)
  (his:isB ⟨id,n,view,last,works,commit,log,acks,votes,told⟩=true) (hld:(Nod.opened ⟨id,n,view,last,works,commit,log,acks,votes,told⟩).leads=true) (hf:¬ ((Nod.opened ⟨id,n,view,last,works,commit,log,acks,votes,told⟩).log.length:Int)=60) (hs:(s.size:Int) > 300) :
  Calls Tryz.prog 6 #[.agg #[.int .i64 id,.int .i64 n,.int .i64 view,.int .i64 last,.bool works,.int .i64 commit,.slice A6 log.length c6,.slice A7 acks.length c7,.slice A8 votes.length c8],.string s] w fun e w'=>∃ v6 v7 v8 v9,e=.returned (.tuple #[.agg #[.int .i64 zeroNod.id,.int .i64 zeroNod.n,.int .i64 zeroNod.view,.int .i64 zeroNod.last,.bool zeroNod.works,.int .i64 zeroNod.commit,v6,v7,v8],v9,.int .i64 2])∧Res w' w.heap.size zeroNod v6 v7 v8 v9∧Below w.heap.size w w':=by
 have hu26:=Tryz.underlying26
 have hu28:=Tryz.underlying28
 have hu56:=Tryz.underlying56
 have hu63:=Tryz.underlying63
 have HR:=Aside0.mk (right_of his)
 have hvs:votes.length≤900:=by have h1:=HR.out.count;have h2:=HR.out.n7;simp only at h1 h2;omega
 have hvt:∀ v,v∈votes→v.f3.length≤1000:=fun v hv=>by have h1:=(loggedB_len (votesB_all _ _ _ _ HR.out.votes v hv).2.2.2.2.2).1;omega
 obtain ⟨hw5,sz5,bx5,by5,bl5,be5⟩:=new4 w (.cells #[.int .i64 id,.int .i64 n,.int .i64 view,.int .i64 last,.bool works,.int .i64 commit,.slice A6 log.length c6,.slice A7 acks.length c7,.slice A8 votes.length c8] 26) (.cells #[.int .i64 0,.int .i64 0,.int .i64 0,.int .i64 0,.bool false,.int .i64 0,.slice none 0 0,.slice none 0 0,.slice none 0 0] 26) (.cells #[.slice none 0 0] 31) (.cells #[.int .i64 0] 32)
 have HW5:=Aside0.mk hw5
 have SZ5:=Aside0.mk sz5
 have BX5:=Aside0.mk bx5
 have BY5:=Aside0.mk (five_zero by5)
 have BL5:=Aside0.mk bl5
 have BE5:=Aside0.mk be5
 clear hw5 sz5 bx5 by5 bl5 be5
 have H21:=Aside0.mk (open_is id n view last works commit log acks votes told A6 A7 A8 c6 c7 c8 _ (Kd.C_below h6 HW5.out) l6 (Kd.C_below h7 HW5.out) l7 (Kd.C_below h8 HW5.out) l8 hl ha hvl hv his hvs hvt)
 have HLD:=Aside0.mk hld
 have l1:(((Nod.opened ⟨id,n,view,last,works,commit,log,acks,votes,told⟩).log.length:Int)==60)=false:=beq_eq_false_iff_ne.mpr hf
 have l2:decide ((s.size:Int) > 300)=true:=decide_eq_true hs
 have l3:decide ((300:Int) < (s.size:Int))=true:=decide_eq_true hs
 clear hld hf hs
 have hpn:∀ W:World,(Instr.panic (.iface 32 (.int .i64 2))).run Tryz.prog W=.halt (.panic (.iface 32 (.int .i64 2))) W:=fun _=>rfl
 clear h6 l6 h7 l7 h8 l8 hl ha hvl hv his hvs hvt
 go_enter_defers Tryz.func6,Tryz.ntmps6
 go_wp2_with (first | (go_at_call 27;refine H21.out.mono ?_;rintro e w6 ⟨g,rfl,hN,hb6⟩;have HN6:=Aside0.mk hN;have HD6:=Aside0.mk (Did.refl hN);have HW6:=Aside0.mk (below_step HW5.out hb6);have SZ6:=Aside0.mk (show w.heap.size+4≤w6.heap.size by have h1:=hb6.size;have h2:=SZ5.out;omega);have BX6:=Aside0.mk ((hb6.block (w.heap.size) (by rw [SZ5.out];omega)).trans BX5.out);have BY6:=Aside0.mk ((hb6.block (w.heap.size+1) (by rw [SZ5.out];omega)).trans BY5.out);have BL6:=Aside0.mk ((hb6.block (w.heap.size+1+1) (by rw [SZ5.out];omega)).trans BL5.out);have BE6:=Aside0.mk ((hb6.block (w.heap.size+1+1+1) (by rw [SZ5.out];omega)).trans BE5.out);obtain ⟨D6,d6,D7,d7,D8,d8,D9,d9,hbg,-⟩:=hN.res2;have p0:w6.cell? ⟨g,0,none⟩=some (.int .i64 (Nod.opened ⟨id,n,view,last,works,commit,log,acks,votes,told⟩).id):=blk_cell hbg 0;have p1:w6.cell? ⟨g,1,none⟩=some (.int .i64 (Nod.opened ⟨id,n,view,last,works,commit,log,acks,votes,told⟩).n):=blk_cell hbg 1;have p2:w6.cell? ⟨g,2,none⟩=some (.int .i64 (Nod.opened ⟨id,n,view,last,works,commit,log,acks,votes,told⟩).view):=blk_cell hbg 2;have p3:w6.cell? ⟨g,3,none⟩=some (.int .i64 (Nod.opened ⟨id,n,view,last,works,commit,log,acks,votes,told⟩).last):=blk_cell hbg 3;have p4:w6.cell? ⟨g,4,none⟩=some (.bool (Nod.opened ⟨id,n,view,last,works,commit,log,acks,votes,told⟩).works):=blk_cell hbg 4;have p5:w6.cell? ⟨g,5,none⟩=some (.int .i64 (Nod.opened ⟨id,n,view,last,works,commit,log,acks,votes,told⟩).commit):=blk_cell hbg 5;have p6:w6.cell? ⟨g,6,none⟩=some (.slice D6 ((Nod.opened ⟨id,n,view,last,works,commit,log,acks,votes,told⟩)).log.length d6):=blk_cell hbg 6;have p7:w6.cell? ⟨g,7,none⟩=some (.slice D7 ((Nod.opened ⟨id,n,view,last,works,commit,log,acks,votes,told⟩)).acks.length d7):=blk_cell hbg 7;have p8:w6.cell? ⟨g,8,none⟩=some (.slice D8 ((Nod.opened ⟨id,n,view,last,works,commit,log,acks,votes,told⟩)).votes.length d8):=blk_cell hbg 8;have p9:w6.cell? ⟨g,9,none⟩=some (.slice D9 ((Nod.opened ⟨id,n,view,last,works,commit,log,acks,votes,told⟩)).told.length d9):=blk_cell hbg 9;have HLC:=Aside0.mk (leads_calls (Nod.opened ⟨id,n,view,last,works,commit,log,acks,votes,told⟩) w6 g p0 p1 p2 p4 HR.out.good.view HR.out.good.n1);clear hN hb6 hbg) | (go_at_call 28;have hlc:=HLC.out;rw [HLD.out] at hlc;refine hlc.mono ?_;rintro e w7 ⟨rfl,⟨nd,rfl⟩⟩))
 refine leaves_cons (f:=26) (args:=#[.pointer (some ⟨w.heap.size+1,0,none⟩),.pointer (some ⟨w.heap.size+1+1,0,none⟩),.pointer (some ⟨w.heap.size+1+1+1,0,none⟩)]) (by simp) (by kernel_rfl) ?_
 refine (caught_panicking (w.heap.size+1) (w.heap.size+1+1) (w.heap.size+1+1+1) 2 [] _ (show (w6.drewN _).heap[_]?=_ from BY6.out) (show (w6.drewN _).heap[_]?=_ from BL6.out) (show (w6.drewN _).heap[_]?=_ from BE6.out) (by omega) (by omega) (by omega)).mono ?_
 rintro e u' w9 ⟨rfl,rfl,ky,kl,ke,kb⟩
 refine ⟨_,results_8 rfl _ _ (w.heap.size+1) (w.heap.size+1+1) (w.heap.size+1+1+1) 26 zeroNode (0,0) (.slice none 0 0) 2 rfl rfl rfl ky rfl ((blk_cell kl 0).trans rfl) ((blk_cell ke 0).trans rfl),.slice none 0 0,.slice none 0 0,.slice none 0 0,.slice none 0 0,rfl,res_zero _ _,?_⟩
 exact (pw_below_drewN HW6.out _).trans (kb w.heap.size (by omega) (by omega) (by omega))
end Go.Proofs.YtfpfpckocemmdaaGreat.P
