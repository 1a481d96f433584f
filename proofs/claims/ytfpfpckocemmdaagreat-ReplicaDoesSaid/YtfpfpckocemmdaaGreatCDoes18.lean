/- Part 18 of the walk. -/
import Derived.Test.YtfpfpckocemmdaaGreatCDoes17
set_option linter.unusedVariables false
set_option linter.unusedSimpArgs false
set_option maxHeartbeats 8000000
set_option maxRecDepth 100000
namespace Go.Proofs.YtfpfpckocemmdaaGreat.P
open Go.RowKit Go.Proofs.YtfpfpckocemmdaaGreatW.PrintWords Go.Proofs.YtfpfpckocemmdaaGreatW.PrintLast Go.Proofs.YtfpfpckocemmdaaGreatW.PrintMore
theorem handle_bad1 (id n view last:Int) (works:Bool) (commit:Int) (log:List ByteArray) (acks:List Int) (votes:List S63) (told:List S28) (A6 A7 A8:Option Addr) (c6 c7 c8:Nat) (w:World) (h6:Kd.C Kd.string w A6 log.length log) (l6:log.length≤c6) (h7:Kd.C (Kd.int .i64) w A7 acks.length acks) (l7:acks.length≤c7) (h8:Kd.C k63 w A8 votes.length votes) (l8:votes.length≤c8)
  (hl:log.length < 4398046511104) (ha:acks.length < 4398046511104) (hvl:votes.length < 4398046511104) (hv:∀ v,v∈votes→v.f3.length < 4398046511104∧(Lit.int .i64 v.f0).wf=true) (m:S28) (A:Option Addr) (c:Nat) (hm:Kd.C Kd.string w A m.f7.length m.f7) (lm:m.f7.length≤c)
  (his:isB ⟨id,n,view,last,works,commit,log,acks,votes,told⟩=true) (hb:msgB m=false) :
  Calls Tryz.prog 10 #[.agg #[id,n,view,last,works,commit,.slice A6 log.length c6,.slice A7 acks.length c7,.slice A8 votes.length c8],.agg #[m.f0,m.f1,m.f2,m.f3,m.f4,m.f5,m.f6,.slice A m.f7.length c]] w fun e w'=>∃ v6 v7 v8 v9,e=.returned (.tuple #[.agg #[zeroNod.id,zeroNod.n,zeroNod.view,zeroNod.last,zeroNod.works,zeroNod.commit,v6,v7,v8],v9,.int .i64 1])∧Res w' w.heap.size zeroNod v6 v7 v8 v9∧Below w.heap.size w w':=by
 have hu26:=Tryz.underlying26
 have hu28:=Tryz.underlying28
 have hu56:=Tryz.underlying56
 have HR:=sd (right_of his)
 have hvs:votes.length≤900:=by have h1:=HR.out.count;have h2:=HR.out.n7;simp only at h1 h2;omega
 have hvt:∀ v,v∈votes→v.f3.length≤1000:=fun v hv=>by have h1:=(loggedB_len (votesB_all _ _ _ _ HR.out.votes v hv).2.2.2.2.2).1;omega
 obtain ⟨hw5,sz5,bx5,bm5,by5,bl5,be5⟩:=new5 w (.cells #[id,n,view,last,works,commit,.slice A6 log.length c6,.slice A7 acks.length c7,.slice A8 votes.length c8] 26) (.cells #[m.f0,m.f1,m.f2,m.f3,m.f4,m.f5,m.f6,.slice A m.f7.length c] 28) (.cells #[.int .i64 0,.int .i64 0,.int .i64 0,.int .i64 0,false,.int .i64 0,.slice none 0 0,.slice none 0 0,.slice none 0 0] 26) (.cells #[.slice none 0 0] 31) (.cells #[.int .i64 0] 32)
 have HW5:=sd hw5
 have SZ5:=sd sz5
 have BX5:=sd bx5
 have BM5:=sd bm5
 have BY5:=sd (five_zero by5)
 have BL5:=sd bl5
 have BE5:=sd be5
 clear hw5 sz5 bx5 bm5 by5 bl5 be5
 have H21:=sd (open_is id n view last works commit log acks votes told A6 A7 A8 c6 c7 c8 _ (Kd.C_below h6 HW5.out) l6 (Kd.C_below h7 HW5.out) l7 (Kd.C_below h8 HW5.out) l8 hl ha hvl hv his hvs hvt)
 have HMC:=sd (fun (W:World) (hb:Below w.heap.size w W)=>Kd.C_below hm hb)
 have LM:=sd lm
 obtain ⟨k,hk⟩:∃ k,101≤k:=⟨101,Nat.le_refl _⟩
 have HMS:=sd (msg_of k hk m)
 rw [hb] at HMS
 clear hb
 have hpn:∀ W:World,(Instr.panic (.iface 32 (.int .i64 1))).run Tryz.prog W=.halt (.panic (.iface 32 (.int .i64 1))) W:=fun _=>rfl
 clear h6 l6 h7 l7 h8 l8 hl ha hvl hv his hvs hvt hm lm hk
 go_enter_defers Tryz.func10,Tryz.ntmps10
 go_wp2_with (first | (go_at_call 27;refine H21.out.mono ?_;rintro e w6 ⟨g,rfl,hN,hb6⟩;have HN6:=sd hN;have HW6:=sd (below_step HW5.out hb6);have SZ6:=sd (show w.heap.size+5≤w6.heap.size by have h1:=hb6.size;have h2:=SZ5.out;omega);have BX6:=sd ((hb6.block (w.heap.size) (by rw [SZ5.out];omega)).trans BX5.out);have BM6:=sd ((hb6.block (w.heap.size+1) (by rw [SZ5.out];omega)).trans BM5.out);have BY6:=sd ((hb6.block (w.heap.size+1+1) (by rw [SZ5.out];omega)).trans BY5.out);have BL6:=sd ((hb6.block (w.heap.size+1+1+1) (by rw [SZ5.out];omega)).trans BL5.out);have BE6:=sd ((hb6.block (w.heap.size+1+1+1+1) (by rw [SZ5.out];omega)).trans BE5.out);have px0:w6.cell? ⟨w.heap.size,0,none⟩=some (.int .i64 id):=blk_cell BX6.out 0;have px1:w6.cell? ⟨w.heap.size,1,none⟩=some (.int .i64 n):=blk_cell BX6.out 1;have px2:w6.cell? ⟨w.heap.size,2,none⟩=some (.int .i64 view):=blk_cell BX6.out 2;have pm0:w6.cell? ⟨w.heap.size+1,0,none⟩=some (.int .i64 m.f0):=blk_cell BM6.out 0;have pm1:w6.cell? ⟨w.heap.size+1,1,none⟩=some (.int .i64 m.f1):=blk_cell BM6.out 1;have pm2:w6.cell? ⟨w.heap.size+1,2,none⟩=some (.int .i64 m.f2):=blk_cell BM6.out 2;have pm3:w6.cell? ⟨w.heap.size+1,3,none⟩=some (.int .i64 m.f3):=blk_cell BM6.out 3;have pm4:w6.cell? ⟨w.heap.size+1,4,none⟩=some (.int .i64 m.f4):=blk_cell BM6.out 4;have pm5:w6.cell? ⟨w.heap.size+1,5,none⟩=some (.int .i64 m.f5):=blk_cell BM6.out 5;have pm6:w6.cell? ⟨w.heap.size+1,6,none⟩=some (.int .i64 m.f6):=blk_cell BM6.out 6;have pm7:w6.cell? ⟨w.heap.size+1,7,none⟩=some (.slice A m.f7.length c):=blk_cell BM6.out 7;clear hN hb6) | (go_at_call 44;refine (msg_Is.calls k m.f0 m.f1 m.f2 m.f3 m.f4 m.f5 m.f6 A c m.f7 false w6 (HMC.out _ HW6.out) LM.out HMS.out).mono ?_;rintro e w7 ⟨rfl,hb7⟩;have HN7:=sd (HN6.out.below hb7);have HW7:=sd (below_step HW6.out hb7);have SZ7:=sd (show w.heap.size+5≤w7.heap.size by have h1:=hb7.size;have h2:=SZ6.out;omega);have BX7:=sd ((hb7.block (w.heap.size) (by have:=SZ6.out;omega)).trans BX6.out);have BM7:=sd ((hb7.block (w.heap.size+1) (by have:=SZ6.out;omega)).trans BM6.out);have BY7:=sd ((hb7.block (w.heap.size+1+1) (by have:=SZ6.out;omega)).trans BY6.out);have BL7:=sd ((hb7.block (w.heap.size+1+1+1) (by have:=SZ6.out;omega)).trans BL6.out);have BE7:=sd ((hb7.block (w.heap.size+1+1+1+1) (by have:=SZ6.out;omega)).trans BE6.out);have qx0:w7.cell? ⟨w.heap.size,0,none⟩=some (.int .i64 id):=blk_cell BX7.out 0;have qx1:w7.cell? ⟨w.heap.size,1,none⟩=some (.int .i64 n):=blk_cell BX7.out 1;have qx2:w7.cell? ⟨w.heap.size,2,none⟩=some (.int .i64 view):=blk_cell BX7.out 2;have qm0:w7.cell? ⟨w.heap.size+1,0,none⟩=some (.int .i64 m.f0):=blk_cell BM7.out 0;have qm1:w7.cell? ⟨w.heap.size+1,1,none⟩=some (.int .i64 m.f1):=blk_cell BM7.out 1;have qm2:w7.cell? ⟨w.heap.size+1,2,none⟩=some (.int .i64 m.f2):=blk_cell BM7.out 2;have qm3:w7.cell? ⟨w.heap.size+1,3,none⟩=some (.int .i64 m.f3):=blk_cell BM7.out 3;have qm4:w7.cell? ⟨w.heap.size+1,4,none⟩=some (.int .i64 m.f4):=blk_cell BM7.out 4;have qm5:w7.cell? ⟨w.heap.size+1,5,none⟩=some (.int .i64 m.f5):=blk_cell BM7.out 5;have qm6:w7.cell? ⟨w.heap.size+1,6,none⟩=some (.int .i64 m.f6):=blk_cell BM7.out 6;have qm7:w7.cell? ⟨w.heap.size+1,7,none⟩=some (.slice A m.f7.length c):=blk_cell BM7.out 7;clear hb7))
 refine leaves_cons (f:=26) (args:=#[.pointer (some ⟨w.heap.size+1+1,0,none⟩),.pointer (some ⟨w.heap.size+1+1+1,0,none⟩),.pointer (some ⟨w.heap.size+1+1+1+1,0,none⟩)]) (by simp) (by kernel_rfl) ?_
 refine (caught_panicking (w.heap.size+1+1) (w.heap.size+1+1+1) (w.heap.size+1+1+1+1) 1 [] w7 BY7.out BL7.out BE7.out (by omega) (by omega) (by omega)).mono ?_
 rintro e u' w9 ⟨rfl,rfl,ky,kl,ke,kb⟩
 refine ⟨_,results_8 rfl _ _ (w.heap.size+1+1) (w.heap.size+1+1+1) (w.heap.size+1+1+1+1) 26 zeroNode (0,0) (.slice none 0 0) 1 rfl rfl rfl ky rfl ((blk_cell kl 0).trans rfl) ((blk_cell ke 0).trans rfl),.slice none 0 0,.slice none 0 0,.slice none 0 0,.slice none 0 0,rfl,res_zero _ _,?_⟩
 exact HW7.out.trans (kb w.heap.size (by omega) (by omega) (by omega))
theorem handle_bad2 (id n view last:Int) (works:Bool) (commit:Int) (log:List ByteArray) (acks:List Int) (votes:List S63) (told:List S28) (A6 A7 A8:Option Addr) (c6 c7 c8:Nat) (w:World) (h6:Kd.C Kd.string w A6 log.length log) (l6:log.length≤c6) (h7:Kd.C (Kd.int .i64) w A7 acks.length acks) (l7:acks.length≤c7) (h8:Kd.C k63 w A8 votes.length votes) (l8:votes.length≤c8)
  (hl:log.length < 4398046511104) (ha:acks.length < 4398046511104) (hvl:votes.length < 4398046511104) (hv:∀ v,v∈votes→v.f3.length < 4398046511104∧(Lit.int .i64 v.f0).wf=true) (m:S28) (A:Option Addr) (c:Nat) (hm:Kd.C Kd.string w A m.f7.length m.f7) (lm:m.f7.length≤c)
  (his:isB ⟨id,n,view,last,works,commit,log,acks,votes,told⟩=true) (hb:msgB m=true) (h_t:¬ m.f2=id) :
  Calls Tryz.prog 10 #[.agg #[id,n,view,last,works,commit,.slice A6 log.length c6,.slice A7 acks.length c7,.slice A8 votes.length c8],.agg #[m.f0,m.f1,m.f2,m.f3,m.f4,m.f5,m.f6,.slice A m.f7.length c]] w fun e w'=>∃ v6 v7 v8 v9,e=.returned (.tuple #[.agg #[zeroNod.id,zeroNod.n,zeroNod.view,zeroNod.last,zeroNod.works,zeroNod.commit,v6,v7,v8],v9,.int .i64 1])∧Res w' w.heap.size zeroNod v6 v7 v8 v9∧Below w.heap.size w w':=by
 have hu26:=Tryz.underlying26
 have hu28:=Tryz.underlying28
 have hu56:=Tryz.underlying56
 have HR:=sd (right_of his)
 have hvs:votes.length≤900:=by have h1:=HR.out.count;have h2:=HR.out.n7;simp only at h1 h2;omega
 have hvt:∀ v,v∈votes→v.f3.length≤1000:=fun v hv=>by have h1:=(loggedB_len (votesB_all _ _ _ _ HR.out.votes v hv).2.2.2.2.2).1;omega
 obtain ⟨hw5,sz5,bx5,bm5,by5,bl5,be5⟩:=new5 w (.cells #[id,n,view,last,works,commit,.slice A6 log.length c6,.slice A7 acks.length c7,.slice A8 votes.length c8] 26) (.cells #[m.f0,m.f1,m.f2,m.f3,m.f4,m.f5,m.f6,.slice A m.f7.length c] 28) (.cells #[.int .i64 0,.int .i64 0,.int .i64 0,.int .i64 0,false,.int .i64 0,.slice none 0 0,.slice none 0 0,.slice none 0 0] 26) (.cells #[.slice none 0 0] 31) (.cells #[.int .i64 0] 32)
 have HW5:=sd hw5
 have SZ5:=sd sz5
 have BX5:=sd bx5
 have BM5:=sd bm5
 have BY5:=sd (five_zero by5)
 have BL5:=sd bl5
 have BE5:=sd be5
 clear hw5 sz5 bx5 bm5 by5 bl5 be5
 have H21:=sd (open_is id n view last works commit log acks votes told A6 A7 A8 c6 c7 c8 _ (Kd.C_below h6 HW5.out) l6 (Kd.C_below h7 HW5.out) l7 (Kd.C_below h8 HW5.out) l8 hl ha hvl hv his hvs hvt)
 have HMC:=sd (fun (W:World) (hb:Below w.heap.size w W)=>Kd.C_below hm hb)
 have LM:=sd lm
 obtain ⟨k,hk⟩:∃ k,101≤k:=⟨101,Nat.le_refl _⟩
 have HMS:=sd (msg_of k hk m)
 rw [hb] at HMS
 have ta:(m.f2==id)=false:=beq_eq_false_iff_ne.mpr h_t
 have tb:(m.f2 != id)=true:=bne_iff_ne.mpr h_t
 clear hb h_t
 have hpn:∀ W:World,(Instr.panic (.iface 32 (.int .i64 1))).run Tryz.prog W=.halt (.panic (.iface 32 (.int .i64 1))) W:=fun _=>rfl
 clear h6 l6 h7 l7 h8 l8 hl ha hvl hv his hvs hvt hm lm hk
 go_enter_defers Tryz.func10,Tryz.ntmps10
 go_wp2_with (first | (go_at_call 27;refine H21.out.mono ?_;rintro e w6 ⟨g,rfl,hN,hb6⟩;have HN6:=sd hN;have HW6:=sd (below_step HW5.out hb6);have SZ6:=sd (show w.heap.size+5≤w6.heap.size by have h1:=hb6.size;have h2:=SZ5.out;omega);have BX6:=sd ((hb6.block (w.heap.size) (by rw [SZ5.out];omega)).trans BX5.out);have BM6:=sd ((hb6.block (w.heap.size+1) (by rw [SZ5.out];omega)).trans BM5.out);have BY6:=sd ((hb6.block (w.heap.size+1+1) (by rw [SZ5.out];omega)).trans BY5.out);have BL6:=sd ((hb6.block (w.heap.size+1+1+1) (by rw [SZ5.out];omega)).trans BL5.out);have BE6:=sd ((hb6.block (w.heap.size+1+1+1+1) (by rw [SZ5.out];omega)).trans BE5.out);have px0:w6.cell? ⟨w.heap.size,0,none⟩=some (.int .i64 id):=blk_cell BX6.out 0;have px1:w6.cell? ⟨w.heap.size,1,none⟩=some (.int .i64 n):=blk_cell BX6.out 1;have px2:w6.cell? ⟨w.heap.size,2,none⟩=some (.int .i64 view):=blk_cell BX6.out 2;have pm0:w6.cell? ⟨w.heap.size+1,0,none⟩=some (.int .i64 m.f0):=blk_cell BM6.out 0;have pm1:w6.cell? ⟨w.heap.size+1,1,none⟩=some (.int .i64 m.f1):=blk_cell BM6.out 1;have pm2:w6.cell? ⟨w.heap.size+1,2,none⟩=some (.int .i64 m.f2):=blk_cell BM6.out 2;have pm3:w6.cell? ⟨w.heap.size+1,3,none⟩=some (.int .i64 m.f3):=blk_cell BM6.out 3;have pm4:w6.cell? ⟨w.heap.size+1,4,none⟩=some (.int .i64 m.f4):=blk_cell BM6.out 4;have pm5:w6.cell? ⟨w.heap.size+1,5,none⟩=some (.int .i64 m.f5):=blk_cell BM6.out 5;have pm6:w6.cell? ⟨w.heap.size+1,6,none⟩=some (.int .i64 m.f6):=blk_cell BM6.out 6;have pm7:w6.cell? ⟨w.heap.size+1,7,none⟩=some (.slice A m.f7.length c):=blk_cell BM6.out 7;clear hN hb6) | (go_at_call 44;refine (msg_Is.calls k m.f0 m.f1 m.f2 m.f3 m.f4 m.f5 m.f6 A c m.f7 true w6 (HMC.out _ HW6.out) LM.out HMS.out).mono ?_;rintro e w7 ⟨rfl,hb7⟩;have HN7:=sd (HN6.out.below hb7);have HW7:=sd (below_step HW6.out hb7);have SZ7:=sd (show w.heap.size+5≤w7.heap.size by have h1:=hb7.size;have h2:=SZ6.out;omega);have BX7:=sd ((hb7.block (w.heap.size) (by have:=SZ6.out;omega)).trans BX6.out);have BM7:=sd ((hb7.block (w.heap.size+1) (by have:=SZ6.out;omega)).trans BM6.out);have BY7:=sd ((hb7.block (w.heap.size+1+1) (by have:=SZ6.out;omega)).trans BY6.out);have BL7:=sd ((hb7.block (w.heap.size+1+1+1) (by have:=SZ6.out;omega)).trans BL6.out);have BE7:=sd ((hb7.block (w.heap.size+1+1+1+1) (by have:=SZ6.out;omega)).trans BE6.out);have qx0:w7.cell? ⟨w.heap.size,0,none⟩=some (.int .i64 id):=blk_cell BX7.out 0;have qx1:w7.cell? ⟨w.heap.size,1,none⟩=some (.int .i64 n):=blk_cell BX7.out 1;have qx2:w7.cell? ⟨w.heap.size,2,none⟩=some (.int .i64 view):=blk_cell BX7.out 2;have qm0:w7.cell? ⟨w.heap.size+1,0,none⟩=some (.int .i64 m.f0):=blk_cell BM7.out 0;have qm1:w7.cell? ⟨w.heap.size+1,1,none⟩=some (.int .i64 m.f1):=blk_cell BM7.out 1;have qm2:w7.cell? ⟨w.heap.size+1,2,none⟩=some (.int .i64 m.f2):=blk_cell BM7.out 2;have qm3:w7.cell? ⟨w.heap.size+1,3,none⟩=some (.int .i64 m.f3):=blk_cell BM7.out 3;have qm4:w7.cell? ⟨w.heap.size+1,4,none⟩=some (.int .i64 m.f4):=blk_cell BM7.out 4;have qm5:w7.cell? ⟨w.heap.size+1,5,none⟩=some (.int .i64 m.f5):=blk_cell BM7.out 5;have qm6:w7.cell? ⟨w.heap.size+1,6,none⟩=some (.int .i64 m.f6):=blk_cell BM7.out 6;have qm7:w7.cell? ⟨w.heap.size+1,7,none⟩=some (.slice A m.f7.length c):=blk_cell BM7.out 7;clear hb7))
 refine leaves_cons (f:=26) (args:=#[.pointer (some ⟨w.heap.size+1+1,0,none⟩),.pointer (some ⟨w.heap.size+1+1+1,0,none⟩),.pointer (some ⟨w.heap.size+1+1+1+1,0,none⟩)]) (by simp) (by kernel_rfl) ?_
 refine (caught_panicking (w.heap.size+1+1) (w.heap.size+1+1+1) (w.heap.size+1+1+1+1) 1 [] w7 BY7.out BL7.out BE7.out (by omega) (by omega) (by omega)).mono ?_
 rintro e u' w9 ⟨rfl,rfl,ky,kl,ke,kb⟩
 refine ⟨_,results_8 rfl _ _ (w.heap.size+1+1) (w.heap.size+1+1+1) (w.heap.size+1+1+1+1) 26 zeroNode (0,0) (.slice none 0 0) 1 rfl rfl rfl ky rfl ((blk_cell kl 0).trans rfl) ((blk_cell ke 0).trans rfl),.slice none 0 0,.slice none 0 0,.slice none 0 0,.slice none 0 0,rfl,res_zero _ _,?_⟩
 exact HW7.out.trans (kb w.heap.size (by omega) (by omega) (by omega))
theorem handle_bad3 (id n view last:Int) (works:Bool) (commit:Int) (log:List ByteArray) (acks:List Int) (votes:List S63) (told:List S28) (A6 A7 A8:Option Addr) (c6 c7 c8:Nat) (w:World) (h6:Kd.C Kd.string w A6 log.length log) (l6:log.length≤c6) (h7:Kd.C (Kd.int .i64) w A7 acks.length acks) (l7:acks.length≤c7) (h8:Kd.C k63 w A8 votes.length votes) (l8:votes.length≤c8)
  (hl:log.length < 4398046511104) (ha:acks.length < 4398046511104) (hvl:votes.length < 4398046511104) (hv:∀ v,v∈votes→v.f3.length < 4398046511104∧(Lit.int .i64 v.f0).wf=true) (m:S28) (A:Option Addr) (c:Nat) (hm:Kd.C Kd.string w A m.f7.length m.f7) (lm:m.f7.length≤c)
  (his:isB ⟨id,n,view,last,works,commit,log,acks,votes,told⟩=true) (hb:msgB m=true) (h_t:m.f2=id) (h_f:m.f1=id) :
  Calls Tryz.prog 10 #[.agg #[id,n,view,last,works,commit,.slice A6 log.length c6,.slice A7 acks.length c7,.slice A8 votes.length c8],.agg #[m.f0,m.f1,m.f2,m.f3,m.f4,m.f5,m.f6,.slice A m.f7.length c]] w fun e w'=>∃ v6 v7 v8 v9,e=.returned (.tuple #[.agg #[zeroNod.id,zeroNod.n,zeroNod.view,zeroNod.last,zeroNod.works,zeroNod.commit,v6,v7,v8],v9,.int .i64 1])∧Res w' w.heap.size zeroNod v6 v7 v8 v9∧Below w.heap.size w w':=by
 have hu26:=Tryz.underlying26
 have hu28:=Tryz.underlying28
 have hu56:=Tryz.underlying56
 have HR:=sd (right_of his)
 have hvs:votes.length≤900:=by have h1:=HR.out.count;have h2:=HR.out.n7;simp only at h1 h2;omega
 have hvt:∀ v,v∈votes→v.f3.length≤1000:=fun v hv=>by have h1:=(loggedB_len (votesB_all _ _ _ _ HR.out.votes v hv).2.2.2.2.2).1;omega
 obtain ⟨hw5,sz5,bx5,bm5,by5,bl5,be5⟩:=new5 w (.cells #[id,n,view,last,works,commit,.slice A6 log.length c6,.slice A7 acks.length c7,.slice A8 votes.length c8] 26) (.cells #[m.f0,m.f1,m.f2,m.f3,m.f4,m.f5,m.f6,.slice A m.f7.length c] 28) (.cells #[.int .i64 0,.int .i64 0,.int .i64 0,.int .i64 0,false,.int .i64 0,.slice none 0 0,.slice none 0 0,.slice none 0 0] 26) (.cells #[.slice none 0 0] 31) (.cells #[.int .i64 0] 32)
 have HW5:=sd hw5
 have SZ5:=sd sz5
 have BX5:=sd bx5
 have BM5:=sd bm5
 have BY5:=sd (five_zero by5)
 have BL5:=sd bl5
 have BE5:=sd be5
 clear hw5 sz5 bx5 bm5 by5 bl5 be5
 have H21:=sd (open_is id n view last works commit log acks votes told A6 A7 A8 c6 c7 c8 _ (Kd.C_below h6 HW5.out) l6 (Kd.C_below h7 HW5.out) l7 (Kd.C_below h8 HW5.out) l8 hl ha hvl hv his hvs hvt)
 have HMC:=sd (fun (W:World) (hb:Below w.heap.size w W)=>Kd.C_below hm hb)
 have LM:=sd lm
 obtain ⟨k,hk⟩:∃ k,101≤k:=⟨101,Nat.le_refl _⟩
 have HMS:=sd (msg_of k hk m)
 rw [hb] at HMS
 have ta:(m.f2==id)=true:=beq_iff_eq.mpr h_t
 have tb:(m.f2 != id)=false:=bne_eq_false_iff_eq.mpr h_t
 have fa:(m.f1==id)=true:=beq_iff_eq.mpr h_f
 have fb:(m.f1 != id)=false:=bne_eq_false_iff_eq.mpr h_f
 clear hb h_t h_f
 have hpn:∀ W:World,(Instr.panic (.iface 32 (.int .i64 1))).run Tryz.prog W=.halt (.panic (.iface 32 (.int .i64 1))) W:=fun _=>rfl
 clear h6 l6 h7 l7 h8 l8 hl ha hvl hv his hvs hvt hm lm hk
 go_enter_defers Tryz.func10,Tryz.ntmps10
 go_wp2_with (first | (go_at_call 27;refine H21.out.mono ?_;rintro e w6 ⟨g,rfl,hN,hb6⟩;have HN6:=sd hN;have HW6:=sd (below_step HW5.out hb6);have SZ6:=sd (show w.heap.size+5≤w6.heap.size by have h1:=hb6.size;have h2:=SZ5.out;omega);have BX6:=sd ((hb6.block (w.heap.size) (by rw [SZ5.out];omega)).trans BX5.out);have BM6:=sd ((hb6.block (w.heap.size+1) (by rw [SZ5.out];omega)).trans BM5.out);have BY6:=sd ((hb6.block (w.heap.size+1+1) (by rw [SZ5.out];omega)).trans BY5.out);have BL6:=sd ((hb6.block (w.heap.size+1+1+1) (by rw [SZ5.out];omega)).trans BL5.out);have BE6:=sd ((hb6.block (w.heap.size+1+1+1+1) (by rw [SZ5.out];omega)).trans BE5.out);have px0:w6.cell? ⟨w.heap.size,0,none⟩=some (.int .i64 id):=blk_cell BX6.out 0;have px1:w6.cell? ⟨w.heap.size,1,none⟩=some (.int .i64 n):=blk_cell BX6.out 1;have px2:w6.cell? ⟨w.heap.size,2,none⟩=some (.int .i64 view):=blk_cell BX6.out 2;have pm0:w6.cell? ⟨w.heap.size+1,0,none⟩=some (.int .i64 m.f0):=blk_cell BM6.out 0;have pm1:w6.cell? ⟨w.heap.size+1,1,none⟩=some (.int .i64 m.f1):=blk_cell BM6.out 1;have pm2:w6.cell? ⟨w.heap.size+1,2,none⟩=some (.int .i64 m.f2):=blk_cell BM6.out 2;have pm3:w6.cell? ⟨w.heap.size+1,3,none⟩=some (.int .i64 m.f3):=blk_cell BM6.out 3;have pm4:w6.cell? ⟨w.heap.size+1,4,none⟩=some (.int .i64 m.f4):=blk_cell BM6.out 4;have pm5:w6.cell? ⟨w.heap.size+1,5,none⟩=some (.int .i64 m.f5):=blk_cell BM6.out 5;have pm6:w6.cell? ⟨w.heap.size+1,6,none⟩=some (.int .i64 m.f6):=blk_cell BM6.out 6;have pm7:w6.cell? ⟨w.heap.size+1,7,none⟩=some (.slice A m.f7.length c):=blk_cell BM6.out 7;clear hN hb6) | (go_at_call 44;refine (msg_Is.calls k m.f0 m.f1 m.f2 m.f3 m.f4 m.f5 m.f6 A c m.f7 true w6 (HMC.out _ HW6.out) LM.out HMS.out).mono ?_;rintro e w7 ⟨rfl,hb7⟩;have HN7:=sd (HN6.out.below hb7);have HW7:=sd (below_step HW6.out hb7);have SZ7:=sd (show w.heap.size+5≤w7.heap.size by have h1:=hb7.size;have h2:=SZ6.out;omega);have BX7:=sd ((hb7.block (w.heap.size) (by have:=SZ6.out;omega)).trans BX6.out);have BM7:=sd ((hb7.block (w.heap.size+1) (by have:=SZ6.out;omega)).trans BM6.out);have BY7:=sd ((hb7.block (w.heap.size+1+1) (by have:=SZ6.out;omega)).trans BY6.out);have BL7:=sd ((hb7.block (w.heap.size+1+1+1) (by have:=SZ6.out;omega)).trans BL6.out);have BE7:=sd ((hb7.block (w.heap.size+1+1+1+1) (by have:=SZ6.out;omega)).trans BE6.out);have qx0:w7.cell? ⟨w.heap.size,0,none⟩=some (.int .i64 id):=blk_cell BX7.out 0;have qx1:w7.cell? ⟨w.heap.size,1,none⟩=some (.int .i64 n):=blk_cell BX7.out 1;have qx2:w7.cell? ⟨w.heap.size,2,none⟩=some (.int .i64 view):=blk_cell BX7.out 2;have qm0:w7.cell? ⟨w.heap.size+1,0,none⟩=some (.int .i64 m.f0):=blk_cell BM7.out 0;have qm1:w7.cell? ⟨w.heap.size+1,1,none⟩=some (.int .i64 m.f1):=blk_cell BM7.out 1;have qm2:w7.cell? ⟨w.heap.size+1,2,none⟩=some (.int .i64 m.f2):=blk_cell BM7.out 2;have qm3:w7.cell? ⟨w.heap.size+1,3,none⟩=some (.int .i64 m.f3):=blk_cell BM7.out 3;have qm4:w7.cell? ⟨w.heap.size+1,4,none⟩=some (.int .i64 m.f4):=blk_cell BM7.out 4;have qm5:w7.cell? ⟨w.heap.size+1,5,none⟩=some (.int .i64 m.f5):=blk_cell BM7.out 5;have qm6:w7.cell? ⟨w.heap.size+1,6,none⟩=some (.int .i64 m.f6):=blk_cell BM7.out 6;have qm7:w7.cell? ⟨w.heap.size+1,7,none⟩=some (.slice A m.f7.length c):=blk_cell BM7.out 7;clear hb7))
 refine leaves_cons (f:=26) (args:=#[.pointer (some ⟨w.heap.size+1+1,0,none⟩),.pointer (some ⟨w.heap.size+1+1+1,0,none⟩),.pointer (some ⟨w.heap.size+1+1+1+1,0,none⟩)]) (by simp) (by kernel_rfl) ?_
 refine (caught_panicking (w.heap.size+1+1) (w.heap.size+1+1+1) (w.heap.size+1+1+1+1) 1 [] w7 BY7.out BL7.out BE7.out (by omega) (by omega) (by omega)).mono ?_
 rintro e u' w9 ⟨rfl,rfl,ky,kl,ke,kb⟩
 refine ⟨_,results_8 rfl _ _ (w.heap.size+1+1) (w.heap.size+1+1+1) (w.heap.size+1+1+1+1) 26 zeroNode (0,0) (.slice none 0 0) 1 rfl rfl rfl ky rfl ((blk_cell kl 0).trans rfl) ((blk_cell ke 0).trans rfl),.slice none 0 0,.slice none 0 0,.slice none 0 0,.slice none 0 0,rfl,res_zero _ _,?_⟩
 exact HW7.out.trans (kb w.heap.size (by omega) (by omega) (by omega))
theorem handle_bad4 (id n view last:Int) (works:Bool) (commit:Int) (log:List ByteArray) (acks:List Int) (votes:List S63) (told:List S28) (A6 A7 A8:Option Addr) (c6 c7 c8:Nat) (w:World) (h6:Kd.C Kd.string w A6 log.length log) (l6:log.length≤c6) (h7:Kd.C (Kd.int .i64) w A7 acks.length acks) (l7:acks.length≤c7) (h8:Kd.C k63 w A8 votes.length votes) (l8:votes.length≤c8)
  (hl:log.length < 4398046511104) (ha:acks.length < 4398046511104) (hvl:votes.length < 4398046511104) (hv:∀ v,v∈votes→v.f3.length < 4398046511104∧(Lit.int .i64 v.f0).wf=true) (m:S28) (A:Option Addr) (c:Nat) (hm:Kd.C Kd.string w A m.f7.length m.f7) (lm:m.f7.length≤c)
  (his:isB ⟨id,n,view,last,works,commit,log,acks,votes,told⟩=true) (hb:msgB m=true) (h_t:m.f2=id) (h_f:¬ m.f1=id) (h_n:m.f1≥n) :
  Calls Tryz.prog 10 #[.agg #[id,n,view,last,works,commit,.slice A6 log.length c6,.slice A7 acks.length c7,.slice A8 votes.length c8],.agg #[m.f0,m.f1,m.f2,m.f3,m.f4,m.f5,m.f6,.slice A m.f7.length c]] w fun e w'=>∃ v6 v7 v8 v9,e=.returned (.tuple #[.agg #[zeroNod.id,zeroNod.n,zeroNod.view,zeroNod.last,zeroNod.works,zeroNod.commit,v6,v7,v8],v9,.int .i64 1])∧Res w' w.heap.size zeroNod v6 v7 v8 v9∧Below w.heap.size w w':=by
 have hu26:=Tryz.underlying26
 have hu28:=Tryz.underlying28
 have hu56:=Tryz.underlying56
 have HR:=sd (right_of his)
 have hvs:votes.length≤900:=by have h1:=HR.out.count;have h2:=HR.out.n7;simp only at h1 h2;omega
 have hvt:∀ v,v∈votes→v.f3.length≤1000:=fun v hv=>by have h1:=(loggedB_len (votesB_all _ _ _ _ HR.out.votes v hv).2.2.2.2.2).1;omega
 obtain ⟨hw5,sz5,bx5,bm5,by5,bl5,be5⟩:=new5 w (.cells #[id,n,view,last,works,commit,.slice A6 log.length c6,.slice A7 acks.length c7,.slice A8 votes.length c8] 26) (.cells #[m.f0,m.f1,m.f2,m.f3,m.f4,m.f5,m.f6,.slice A m.f7.length c] 28) (.cells #[.int .i64 0,.int .i64 0,.int .i64 0,.int .i64 0,false,.int .i64 0,.slice none 0 0,.slice none 0 0,.slice none 0 0] 26) (.cells #[.slice none 0 0] 31) (.cells #[.int .i64 0] 32)
 have HW5:=sd hw5
 have SZ5:=sd sz5
 have BX5:=sd bx5
 have BM5:=sd bm5
 have BY5:=sd (five_zero by5)
 have BL5:=sd bl5
 have BE5:=sd be5
 clear hw5 sz5 bx5 bm5 by5 bl5 be5
 have H21:=sd (open_is id n view last works commit log acks votes told A6 A7 A8 c6 c7 c8 _ (Kd.C_below h6 HW5.out) l6 (Kd.C_below h7 HW5.out) l7 (Kd.C_below h8 HW5.out) l8 hl ha hvl hv his hvs hvt)
 have HMC:=sd (fun (W:World) (hb:Below w.heap.size w W)=>Kd.C_below hm hb)
 have LM:=sd lm
 obtain ⟨k,hk⟩:∃ k,101≤k:=⟨101,Nat.le_refl _⟩
 have HMS:=sd (msg_of k hk m)
 rw [hb] at HMS
 have ta:(m.f2==id)=true:=beq_iff_eq.mpr h_t
 have tb:(m.f2 != id)=false:=bne_eq_false_iff_eq.mpr h_t
 have fa:(m.f1==id)=false:=beq_eq_false_iff_ne.mpr h_f
 have fb:(m.f1 != id)=true:=bne_iff_ne.mpr h_f
 have na:decide (m.f1≥n)=true:=decide_eq_true h_n
 have nb:decide (n≤m.f1)=true:=decide_eq_true h_n
 clear hb h_t h_f h_n
 have hpn:∀ W:World,(Instr.panic (.iface 32 (.int .i64 1))).run Tryz.prog W=.halt (.panic (.iface 32 (.int .i64 1))) W:=fun _=>rfl
 clear h6 l6 h7 l7 h8 l8 hl ha hvl hv his hvs hvt hm lm hk
 go_enter_defers Tryz.func10,Tryz.ntmps10
 go_wp2_with (first | (go_at_call 27;refine H21.out.mono ?_;rintro e w6 ⟨g,rfl,hN,hb6⟩;have HN6:=sd hN;have HW6:=sd (below_step HW5.out hb6);have SZ6:=sd (show w.heap.size+5≤w6.heap.size by have h1:=hb6.size;have h2:=SZ5.out;omega);have BX6:=sd ((hb6.block (w.heap.size) (by rw [SZ5.out];omega)).trans BX5.out);have BM6:=sd ((hb6.block (w.heap.size+1) (by rw [SZ5.out];omega)).trans BM5.out);have BY6:=sd ((hb6.block (w.heap.size+1+1) (by rw [SZ5.out];omega)).trans BY5.out);have BL6:=sd ((hb6.block (w.heap.size+1+1+1) (by rw [SZ5.out];omega)).trans BL5.out);have BE6:=sd ((hb6.block (w.heap.size+1+1+1+1) (by rw [SZ5.out];omega)).trans BE5.out);have px0:w6.cell? ⟨w.heap.size,0,none⟩=some (.int .i64 id):=blk_cell BX6.out 0;have px1:w6.cell? ⟨w.heap.size,1,none⟩=some (.int .i64 n):=blk_cell BX6.out 1;have px2:w6.cell? ⟨w.heap.size,2,none⟩=some (.int .i64 view):=blk_cell BX6.out 2;have pm0:w6.cell? ⟨w.heap.size+1,0,none⟩=some (.int .i64 m.f0):=blk_cell BM6.out 0;have pm1:w6.cell? ⟨w.heap.size+1,1,none⟩=some (.int .i64 m.f1):=blk_cell BM6.out 1;have pm2:w6.cell? ⟨w.heap.size+1,2,none⟩=some (.int .i64 m.f2):=blk_cell BM6.out 2;have pm3:w6.cell? ⟨w.heap.size+1,3,none⟩=some (.int .i64 m.f3):=blk_cell BM6.out 3;have pm4:w6.cell? ⟨w.heap.size+1,4,none⟩=some (.int .i64 m.f4):=blk_cell BM6.out 4;have pm5:w6.cell? ⟨w.heap.size+1,5,none⟩=some (.int .i64 m.f5):=blk_cell BM6.out 5;have pm6:w6.cell? ⟨w.heap.size+1,6,none⟩=some (.int .i64 m.f6):=blk_cell BM6.out 6;have pm7:w6.cell? ⟨w.heap.size+1,7,none⟩=some (.slice A m.f7.length c):=blk_cell BM6.out 7;clear hN hb6) | (go_at_call 44;refine (msg_Is.calls k m.f0 m.f1 m.f2 m.f3 m.f4 m.f5 m.f6 A c m.f7 true w6 (HMC.out _ HW6.out) LM.out HMS.out).mono ?_;rintro e w7 ⟨rfl,hb7⟩;have HN7:=sd (HN6.out.below hb7);have HW7:=sd (below_step HW6.out hb7);have SZ7:=sd (show w.heap.size+5≤w7.heap.size by have h1:=hb7.size;have h2:=SZ6.out;omega);have BX7:=sd ((hb7.block (w.heap.size) (by have:=SZ6.out;omega)).trans BX6.out);have BM7:=sd ((hb7.block (w.heap.size+1) (by have:=SZ6.out;omega)).trans BM6.out);have BY7:=sd ((hb7.block (w.heap.size+1+1) (by have:=SZ6.out;omega)).trans BY6.out);have BL7:=sd ((hb7.block (w.heap.size+1+1+1) (by have:=SZ6.out;omega)).trans BL6.out);have BE7:=sd ((hb7.block (w.heap.size+1+1+1+1) (by have:=SZ6.out;omega)).trans BE6.out);have qx0:w7.cell? ⟨w.heap.size,0,none⟩=some (.int .i64 id):=blk_cell BX7.out 0;have qx1:w7.cell? ⟨w.heap.size,1,none⟩=some (.int .i64 n):=blk_cell BX7.out 1;have qx2:w7.cell? ⟨w.heap.size,2,none⟩=some (.int .i64 view):=blk_cell BX7.out 2;have qm0:w7.cell? ⟨w.heap.size+1,0,none⟩=some (.int .i64 m.f0):=blk_cell BM7.out 0;have qm1:w7.cell? ⟨w.heap.size+1,1,none⟩=some (.int .i64 m.f1):=blk_cell BM7.out 1;have qm2:w7.cell? ⟨w.heap.size+1,2,none⟩=some (.int .i64 m.f2):=blk_cell BM7.out 2;have qm3:w7.cell? ⟨w.heap.size+1,3,none⟩=some (.int .i64 m.f3):=blk_cell BM7.out 3;have qm4:w7.cell? ⟨w.heap.size+1,4,none⟩=some (.int .i64 m.f4):=blk_cell BM7.out 4;have qm5:w7.cell? ⟨w.heap.size+1,5,none⟩=some (.int .i64 m.f5):=blk_cell BM7.out 5;have qm6:w7.cell? ⟨w.heap.size+1,6,none⟩=some (.int .i64 m.f6):=blk_cell BM7.out 6;have qm7:w7.cell? ⟨w.heap.size+1,7,none⟩=some (.slice A m.f7.length c):=blk_cell BM7.out 7;clear hb7))
 refine leaves_cons (f:=26) (args:=#[.pointer (some ⟨w.heap.size+1+1,0,none⟩),.pointer (some ⟨w.heap.size+1+1+1,0,none⟩),.pointer (some ⟨w.heap.size+1+1+1+1,0,none⟩)]) (by simp) (by kernel_rfl) ?_
 refine (caught_panicking (w.heap.size+1+1) (w.heap.size+1+1+1) (w.heap.size+1+1+1+1) 1 [] w7 BY7.out BL7.out BE7.out (by omega) (by omega) (by omega)).mono ?_
 rintro e u' w9 ⟨rfl,rfl,ky,kl,ke,kb⟩
 refine ⟨_,results_8 rfl _ _ (w.heap.size+1+1) (w.heap.size+1+1+1) (w.heap.size+1+1+1+1) 26 zeroNode (0,0) (.slice none 0 0) 1 rfl rfl rfl ky rfl ((blk_cell kl 0).trans rfl) ((blk_cell ke 0).trans rfl),.slice none 0 0,.slice none 0 0,.slice none 0 0,.slice none 0 0,rfl,res_zero _ _,?_⟩
 exact HW7.out.trans (kb w.heap.size (by omega) (by omega) (by omega))
end Go.Proofs.YtfpfpckocemmdaaGreat.P
