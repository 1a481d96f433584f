/- Part 26 of the walk. -/
import Derived.Test.YtfpfpckocemmdaaGreatCDoes23
set_option linter.unusedVariables false
set_option linter.unusedSimpArgs false
set_option maxHeartbeats 8000000
set_option maxRecDepth 100000
namespace Go.Proofs.YtfpfpckocemmdaaGreat.P
open Go.RowKit Go.Proofs.YtfpfpckocemmdaaGreatW.PrintWords Go.Proofs.YtfpfpckocemmdaaGreatW.PrintLast Go.Proofs.YtfpfpckocemmdaaGreatW.PrintMore
theorem handle_vote (id n view last:Int) (works:Bool) (commit:Int) (log:List ByteArray) (acks:List Int) (votes:List S63) (told:List S28) (A6 A7 A8:Option Addr) (c6 c7 c8:Nat) (w:World) (h6:Kd.C Kd.string w A6 log.length log) (l6:log.length≤c6) (h7:Kd.C (Kd.int .i64) w A7 acks.length acks) (l7:acks.length≤c7) (h8:Kd.C k63 w A8 votes.length votes) (l8:votes.length≤c8)
  (hl:log.length < 4398046511104) (ha:acks.length < 4398046511104) (hvl:votes.length < 4398046511104) (hv:∀ v,v∈votes→v.f3.length < 4398046511104∧(Lit.int .i64 v.f0).wf=true) (a1 a2 a3 a4 a5 a6:Int) (a7:List ByteArray) (A:Option Addr) (c:Nat) (hm:Kd.C Kd.string w A a7.length a7) (lm:a7.length≤c)
  (his:isB ⟨id,n,view,last,works,commit,log,acks,votes,told⟩=true) (hb:msgB (⟨3,a1,a2,a3,a4,a5,a6,a7⟩:S28)=true) (h_t:a2=id) (h_f:¬ a1=id) (h_n:¬ a1≥n) (h_v:a3≥view) :
  Calls Tryz.prog 10 #[.agg #[.int .i64 id,.int .i64 n,.int .i64 view,.int .i64 last,.bool works,.int .i64 commit,.slice A6 log.length c6,.slice A7 acks.length c7,.slice A8 votes.length c8],.agg #[.int .i64 3,.int .i64 a1,.int .i64 a2,.int .i64 a3,.int .i64 a4,.int .i64 a5,.int .i64 a6,.slice A a7.length c]] w fun e w'=>∃ v6 v7 v8 v9,e=.returned (.tuple #[.agg #[.int .i64 ((Nod.opened ⟨id,n,view,last,works,commit,log,acks,votes,told⟩).vote (⟨3,a1,a2,a3,a4,a5,a6,a7⟩:S28)).id,.int .i64 ((Nod.opened ⟨id,n,view,last,works,commit,log,acks,votes,told⟩).vote (⟨3,a1,a2,a3,a4,a5,a6,a7⟩:S28)).n,.int .i64 ((Nod.opened ⟨id,n,view,last,works,commit,log,acks,votes,told⟩).vote (⟨3,a1,a2,a3,a4,a5,a6,a7⟩:S28)).view,.int .i64 ((Nod.opened ⟨id,n,view,last,works,commit,log,acks,votes,told⟩).vote (⟨3,a1,a2,a3,a4,a5,a6,a7⟩:S28)).last,.bool ((Nod.opened ⟨id,n,view,last,works,commit,log,acks,votes,told⟩).vote (⟨3,a1,a2,a3,a4,a5,a6,a7⟩:S28)).works,.int .i64 ((Nod.opened ⟨id,n,view,last,works,commit,log,acks,votes,told⟩).vote (⟨3,a1,a2,a3,a4,a5,a6,a7⟩:S28)).commit,v6,v7,v8],v9,.int .i64 0])∧Res w' w.heap.size ((Nod.opened ⟨id,n,view,last,works,commit,log,acks,votes,told⟩).vote (⟨3,a1,a2,a3,a4,a5,a6,a7⟩:S28)) v6 v7 v8 v9∧Below w.heap.size w w':=by
 have hu26:=Tryz.underlying26
 have hu28:=Tryz.underlying28
 have hu56:=Tryz.underlying56
 have HR:=Aside0.mk (right_of his)
 have hvs:votes.length≤900:=by have h1:=HR.out.count;have h2:=HR.out.n7;simp only at h1 h2;omega
 have hvt:∀ v,v∈votes→v.f3.length≤1000:=fun v hv=>by have h1:=(loggedB_len (votesB_all _ _ _ _ HR.out.votes v hv).2.2.2.2.2).1;omega
 obtain ⟨hw5,sz5,bx5,bm5,by5,bl5,be5⟩:=new5 w (.cells #[.int .i64 id,.int .i64 n,.int .i64 view,.int .i64 last,.bool works,.int .i64 commit,.slice A6 log.length c6,.slice A7 acks.length c7,.slice A8 votes.length c8] 26) (.cells #[.int .i64 3,.int .i64 a1,.int .i64 a2,.int .i64 a3,.int .i64 a4,.int .i64 a5,.int .i64 a6,.slice A a7.length c] 28) (.cells #[.int .i64 0,.int .i64 0,.int .i64 0,.int .i64 0,.bool false,.int .i64 0,.slice none 0 0,.slice none 0 0,.slice none 0 0] 26) (.cells #[.slice none 0 0] 31) (.cells #[.int .i64 0] 32)
 have HW5:=Aside0.mk hw5
 have SZ5:=Aside0.mk sz5
 have BX5:=Aside0.mk bx5
 have BM5:=Aside0.mk bm5
 have BY5:=Aside0.mk (five_zero by5)
 have BL5:=Aside0.mk bl5
 have BE5:=Aside0.mk be5
 clear hw5 sz5 bx5 bm5 by5 bl5 be5
 have H21:=Aside0.mk (open_is id n view last works commit log acks votes told A6 A7 A8 c6 c7 c8 _ (Kd.C_below h6 HW5.out) l6 (Kd.C_below h7 HW5.out) l7 (Kd.C_below h8 HW5.out) l8 hl ha hvl hv his hvs hvt)
 have HMC:=Aside0.mk (fun (W:World) (hb:Below w.heap.size w W)=>Kd.C_below hm hb)
 have LM:=Aside0.mk lm
 obtain ⟨k,hk⟩:∃ k,101≤k:=⟨101,Nat.le_refl _⟩
 have HMS:=Aside0.mk (msg_of k hk (⟨3,a1,a2,a3,a4,a5,a6,a7⟩:S28))
 rw [hb] at HMS
 have ta:(a2==id)=true:=beq_iff_eq.mpr h_t
 have tb:(a2 != id)=false:=bne_eq_false_iff_eq.mpr h_t
 have fa:(a1==id)=false:=beq_eq_false_iff_ne.mpr h_f
 have fb:(a1 != id)=true:=bne_iff_ne.mpr h_f
 have na:decide (a1≥n)=false:=decide_eq_false h_n
 have nb:decide (n≤a1)=false:=decide_eq_false h_n
 have va:decide (a3≥view)=true:=decide_eq_true h_v
 have vb:decide (view≤a3)=true:=decide_eq_true h_v
 have hmk:∀ W:World,(Instr.makeMap 72 none).run Tryz.prog W=.ok (.map (some W.heap.size)) (W.alloc (.map #[] 0)):=fun _=>rfl
 have HBM:=Aside0.mk hb
 have HT_F:=Aside0.mk (And.intro h_f h_n)
 have HVW:=Aside0.mk h_v
 clear hb h_t h_f h_n h_v
 clear h6 l6 h7 l7 h8 l8 hl ha hvl hv his hvs hvt hm lm hk
 go_enter_defers Tryz.func10,Tryz.ntmps10
 go_wp2_with (first | (go_at_call 27;refine H21.out.mono ?_;rintro e w6 ⟨g,rfl,hN,hb6⟩;have HN6:=Aside0.mk hN;have HW6:=Aside0.mk (below_step HW5.out hb6);have SZ6:=Aside0.mk (show w.heap.size+5≤w6.heap.size by have h1:=hb6.size;have h2:=SZ5.out;omega);have BX6:=Aside0.mk ((hb6.block (w.heap.size) (by rw [SZ5.out];omega)).trans BX5.out);have BM6:=Aside0.mk ((hb6.block (w.heap.size+1) (by rw [SZ5.out];omega)).trans BM5.out);have BY6:=Aside0.mk ((hb6.block (w.heap.size+1+1) (by rw [SZ5.out];omega)).trans BY5.out);have BL6:=Aside0.mk ((hb6.block (w.heap.size+1+1+1) (by rw [SZ5.out];omega)).trans BL5.out);have BE6:=Aside0.mk ((hb6.block (w.heap.size+1+1+1+1) (by rw [SZ5.out];omega)).trans BE5.out);have px0:w6.cell? ⟨w.heap.size,0,none⟩=some (.int .i64 id):=blk_cell BX6.out 0;have px1:w6.cell? ⟨w.heap.size,1,none⟩=some (.int .i64 n):=blk_cell BX6.out 1;have px2:w6.cell? ⟨w.heap.size,2,none⟩=some (.int .i64 view):=blk_cell BX6.out 2;have pm0:w6.cell? ⟨w.heap.size+1,0,none⟩=some (.int .i64 3):=blk_cell BM6.out 0;have pm1:w6.cell? ⟨w.heap.size+1,1,none⟩=some (.int .i64 a1):=blk_cell BM6.out 1;have pm2:w6.cell? ⟨w.heap.size+1,2,none⟩=some (.int .i64 a2):=blk_cell BM6.out 2;have pm3:w6.cell? ⟨w.heap.size+1,3,none⟩=some (.int .i64 a3):=blk_cell BM6.out 3;have pm4:w6.cell? ⟨w.heap.size+1,4,none⟩=some (.int .i64 a4):=blk_cell BM6.out 4;have pm5:w6.cell? ⟨w.heap.size+1,5,none⟩=some (.int .i64 a5):=blk_cell BM6.out 5;have pm6:w6.cell? ⟨w.heap.size+1,6,none⟩=some (.int .i64 a6):=blk_cell BM6.out 6;have pm7:w6.cell? ⟨w.heap.size+1,7,none⟩=some (.slice A a7.length c):=blk_cell BM6.out 7;clear hN hb6) | (go_at_call 44;refine (msg_Is.calls k 3 a1 a2 a3 a4 a5 a6 A c a7 true w6 (HMC.out _ HW6.out) LM.out HMS.out).mono ?_;rintro e w7 ⟨rfl,hb7⟩;have HN7:=Aside0.mk (HN6.out.below hb7);have HW7:=Aside0.mk (below_step HW6.out hb7);have SZ7:=Aside0.mk (show w.heap.size+5≤w7.heap.size by have h1:=hb7.size;have h2:=SZ6.out;omega);have BX7:=Aside0.mk ((hb7.block (w.heap.size) (by have:=SZ6.out;omega)).trans BX6.out);have BM7:=Aside0.mk ((hb7.block (w.heap.size+1) (by have:=SZ6.out;omega)).trans BM6.out);have BY7:=Aside0.mk ((hb7.block (w.heap.size+1+1) (by have:=SZ6.out;omega)).trans BY6.out);have BL7:=Aside0.mk ((hb7.block (w.heap.size+1+1+1) (by have:=SZ6.out;omega)).trans BL6.out);have BE7:=Aside0.mk ((hb7.block (w.heap.size+1+1+1+1) (by have:=SZ6.out;omega)).trans BE6.out);have qx0:w7.cell? ⟨w.heap.size,0,none⟩=some (.int .i64 id):=blk_cell BX7.out 0;have qx1:w7.cell? ⟨w.heap.size,1,none⟩=some (.int .i64 n):=blk_cell BX7.out 1;have qx2:w7.cell? ⟨w.heap.size,2,none⟩=some (.int .i64 view):=blk_cell BX7.out 2;have qm0:w7.cell? ⟨w.heap.size+1,0,none⟩=some (.int .i64 3):=blk_cell BM7.out 0;have qm1:w7.cell? ⟨w.heap.size+1,1,none⟩=some (.int .i64 a1):=blk_cell BM7.out 1;have qm2:w7.cell? ⟨w.heap.size+1,2,none⟩=some (.int .i64 a2):=blk_cell BM7.out 2;have qm3:w7.cell? ⟨w.heap.size+1,3,none⟩=some (.int .i64 a3):=blk_cell BM7.out 3;have qm4:w7.cell? ⟨w.heap.size+1,4,none⟩=some (.int .i64 a4):=blk_cell BM7.out 4;have qm5:w7.cell? ⟨w.heap.size+1,5,none⟩=some (.int .i64 a5):=blk_cell BM7.out 5;have qm6:w7.cell? ⟨w.heap.size+1,6,none⟩=some (.int .i64 a6):=blk_cell BM7.out 6;have qm7:w7.cell? ⟨w.heap.size+1,7,none⟩=some (.slice A a7.length c):=blk_cell BM7.out 7;obtain ⟨W1,r1,b1,s1,B1⟩:=ins_run (w7.alloc (.map #[] 0)) w7.heap.size #[] 0 1 (.func (.func 45) #[] #[]) (x_alloc_new _ _) rfl;obtain ⟨W2,r2,b2,s2,B2⟩:=ins_run W1 w7.heap.size _ _ 2 (.func (.func 46) #[] #[]) b1 rfl;obtain ⟨W3,r3,b3,s3,B3⟩:=ins_run W2 w7.heap.size _ _ 3 (.func (.func 47) #[] #[]) b2 rfl;have rl:=look_run W3 w7.heap.size _ _ 3 (.func (.func 47) #[] #[]) 2 b3 rfl;have HW3:=Aside0.mk (show Below w7.heap.size w7 W3 from (below_alloc (Below.refl _ _) (.map #[] 0)).trans ((B1 _ (Nat.le_refl _)).trans ((B2 _ (Nat.le_refl _)).trans (B3 _ (Nat.le_refl _)))));clear b1 b2 b3 s1 s2 s3 B1 B2 B3;have HND:=Aside0.mk (HN7.out.below HW3.out);have SZD:=Aside0.mk (show w.heap.size+5≤W3.heap.size by have h1:=HW3.out.size;have h2:=SZ7.out;omega);have HWD:=Aside0.mk (below_step HW7.out HW3.out);have BXD:=Aside0.mk ((HW3.out.block (w.heap.size) (by have:=SZ7.out;omega)).trans BX7.out);have BMD:=Aside0.mk ((HW3.out.block (w.heap.size+1) (by have:=SZ7.out;omega)).trans BM7.out);have BYD:=Aside0.mk ((HW3.out.block (w.heap.size+1+1) (by have:=SZ7.out;omega)).trans BY7.out);have BLD:=Aside0.mk ((HW3.out.block (w.heap.size+1+1+1) (by have:=SZ7.out;omega)).trans BL7.out);have BED:=Aside0.mk ((HW3.out.block (w.heap.size+1+1+1+1) (by have:=SZ7.out;omega)).trans BE7.out);have dm0:W3.cell? ⟨w.heap.size+1,0,none⟩=some (.int .i64 3):=blk_cell BMD.out 0;have dm1:W3.cell? ⟨w.heap.size+1,1,none⟩=some (.int .i64 a1):=blk_cell BMD.out 1;have dm2:W3.cell? ⟨w.heap.size+1,2,none⟩=some (.int .i64 a2):=blk_cell BMD.out 2;have dm3:W3.cell? ⟨w.heap.size+1,3,none⟩=some (.int .i64 a3):=blk_cell BMD.out 3;have dm4:W3.cell? ⟨w.heap.size+1,4,none⟩=some (.int .i64 a4):=blk_cell BMD.out 4;have dm5:W3.cell? ⟨w.heap.size+1,5,none⟩=some (.int .i64 a5):=blk_cell BMD.out 5;have dm6:W3.cell? ⟨w.heap.size+1,6,none⟩=some (.int .i64 a6):=blk_cell BMD.out 6;have dm7:W3.cell? ⟨w.heap.size+1,7,none⟩=some (.slice A a7.length c):=blk_cell BMD.out 7;clear hb7) | (go_at_call 47;refine (vote_did (Nod.opened ⟨id,n,view,last,works,commit,log,acks,votes,told⟩) (⟨3,a1,a2,a3,a4,a5,a6,a7⟩:S28) A c W3 W3 (((((w.alloc (.cells #[.int .i64 id,.int .i64 n,.int .i64 view,.int .i64 last,.bool works,.int .i64 commit,.slice A6 log.length c6,.slice A7 acks.length c7,.slice A8 votes.length c8] 26)).alloc (.cells #[.int .i64 3,.int .i64 a1,.int .i64 a2,.int .i64 a3,.int .i64 a4,.int .i64 a5,.int .i64 a6,.slice A a7.length c] 28)).alloc (.cells #[.int .i64 0,.int .i64 0,.int .i64 0,.int .i64 0,.bool false,.int .i64 0,.slice none 0 0,.slice none 0 0,.slice none 0 0] 26)).alloc (.cells #[.slice none 0 0] 31)).alloc (.cells #[.int .i64 0] 32)).heap.size g _ HR.out.good rfl (msg_facts HBM.out).2.2 (by have h1:=HT_F.out.2;show a1 < n;omega) (msg_facts HBM.out).1 (opened_votes HR.out) LM.out (msg_facts HBM.out).2.1 (fun W hb=>HMC.out W (HWD.out.trans (below_weak hb (by have:=SZ5.out;omega)))) (Did.refl HND.out)).mono ?_;rintro e w8 ⟨rfl,h8⟩;have HD8:=Aside0.mk h8;have HN8:=Aside0.mk h8.1;have HW8:=Aside0.mk (HWD.out.trans (below_weak h8.2.2.1 (by have:=SZ5.out;omega)));have SZ8:=Aside0.mk (show w.heap.size+5≤w8.heap.size by have h1:=h8.2.2.1.size;have h2:=SZD.out;omega);have BY8:=Aside0.mk ((h8.2.2.1.block (w.heap.size+1+1) (by rw [SZ5.out];omega)).trans BYD.out);have BL8:=Aside0.mk ((h8.2.2.1.block (w.heap.size+1+1+1) (by rw [SZ5.out];omega)).trans BLD.out);have BE8:=Aside0.mk ((h8.2.2.1.block (w.heap.size+1+1+1+1) (by rw [SZ5.out];omega)).trans BED.out);obtain ⟨D6,d6,D7,d7,D8,d8,D9,d9,hbg,hres⟩:=HN8.out.res2;have HRES:=Aside0.mk hres;have BG8:=Aside0.mk hbg;have tg0:w8.cell? ⟨g,0,none⟩=some (.int .i64 ((Nod.opened ⟨id,n,view,last,works,commit,log,acks,votes,told⟩).vote (⟨3,a1,a2,a3,a4,a5,a6,a7⟩:S28)).id):=blk_cell hbg 0;have tg1:w8.cell? ⟨g,1,none⟩=some (.int .i64 ((Nod.opened ⟨id,n,view,last,works,commit,log,acks,votes,told⟩).vote (⟨3,a1,a2,a3,a4,a5,a6,a7⟩:S28)).n):=blk_cell hbg 1;have tg2:w8.cell? ⟨g,2,none⟩=some (.int .i64 ((Nod.opened ⟨id,n,view,last,works,commit,log,acks,votes,told⟩).vote (⟨3,a1,a2,a3,a4,a5,a6,a7⟩:S28)).view):=blk_cell hbg 2;have tg3:w8.cell? ⟨g,3,none⟩=some (.int .i64 ((Nod.opened ⟨id,n,view,last,works,commit,log,acks,votes,told⟩).vote (⟨3,a1,a2,a3,a4,a5,a6,a7⟩:S28)).last):=blk_cell hbg 3;have tg4:w8.cell? ⟨g,4,none⟩=some (.bool ((Nod.opened ⟨id,n,view,last,works,commit,log,acks,votes,told⟩).vote (⟨3,a1,a2,a3,a4,a5,a6,a7⟩:S28)).works):=blk_cell hbg 4;have tg5:w8.cell? ⟨g,5,none⟩=some (.int .i64 ((Nod.opened ⟨id,n,view,last,works,commit,log,acks,votes,told⟩).vote (⟨3,a1,a2,a3,a4,a5,a6,a7⟩:S28)).commit):=blk_cell hbg 5;have tg6:w8.cell? ⟨g,6,none⟩=some (.slice D6 (((Nod.opened ⟨id,n,view,last,works,commit,log,acks,votes,told⟩).vote (⟨3,a1,a2,a3,a4,a5,a6,a7⟩:S28))).log.length d6):=blk_cell hbg 6;have tg7:w8.cell? ⟨g,7,none⟩=some (.slice D7 (((Nod.opened ⟨id,n,view,last,works,commit,log,acks,votes,told⟩).vote (⟨3,a1,a2,a3,a4,a5,a6,a7⟩:S28))).acks.length d7):=blk_cell hbg 7;have tg8:w8.cell? ⟨g,8,none⟩=some (.slice D8 (((Nod.opened ⟨id,n,view,last,works,commit,log,acks,votes,told⟩).vote (⟨3,a1,a2,a3,a4,a5,a6,a7⟩:S28))).votes.length d8):=blk_cell hbg 8;have tg9:w8.cell? ⟨g,9,none⟩=some (.slice D9 (((Nod.opened ⟨id,n,view,last,works,commit,log,acks,votes,told⟩).vote (⟨3,a1,a2,a3,a4,a5,a6,a7⟩:S28))).told.length d9):=blk_cell hbg 9;have ty0:w8.cell? ⟨w.heap.size+1+1,0,none⟩=some (.int .i64 0):=(blk_cell BY8.out 0).trans rfl;have tf0:=blk_frozen BY8.out 0;have ty1:w8.cell? ⟨w.heap.size+1+1,1,none⟩=some (.int .i64 0):=(blk_cell BY8.out 1).trans rfl;have tf1:=blk_frozen BY8.out 1;have ty2:w8.cell? ⟨w.heap.size+1+1,2,none⟩=some (.int .i64 0):=(blk_cell BY8.out 2).trans rfl;have tf2:=blk_frozen BY8.out 2;have ty3:w8.cell? ⟨w.heap.size+1+1,3,none⟩=some (.int .i64 0):=(blk_cell BY8.out 3).trans rfl;have tf3:=blk_frozen BY8.out 3;have ty4:w8.cell? ⟨w.heap.size+1+1,4,none⟩=some (.bool false):=(blk_cell BY8.out 4).trans rfl;have tf4:=blk_frozen BY8.out 4;have ty5:w8.cell? ⟨w.heap.size+1+1,5,none⟩=some (.int .i64 0):=(blk_cell BY8.out 5).trans rfl;have tf5:=blk_frozen BY8.out 5;have ty6:w8.cell? ⟨w.heap.size+1+1,6,none⟩=some (.slice none 0 0):=(blk_cell BY8.out 6).trans rfl;have tf6:=blk_frozen BY8.out 6;have ty7:w8.cell? ⟨w.heap.size+1+1,7,none⟩=some (.slice none 0 0):=(blk_cell BY8.out 7).trans rfl;have tf7:=blk_frozen BY8.out 7;have ty8:w8.cell? ⟨w.heap.size+1+1,8,none⟩=some (.slice none 0 0):=(blk_cell BY8.out 8).trans rfl;have tf8:=blk_frozen BY8.out 8;have tl0:w8.cell? ⟨w.heap.size+1+1+1,0,none⟩=some (.slice none 0 0):=(blk_cell BL8.out 0).trans rfl;have tl1:=blk_frozen BL8.out 0;have te0:w8.cell? ⟨w.heap.size+1+1+1+1,0,none⟩=some (.int .i64 0):=(blk_cell BE8.out 0).trans rfl;have te1:=blk_frozen BE8.out 0;have HGE:=Aside0.mk (show w.heap.size+5≤g from by have h1:=HN8.out.ge;have h2:=SZ5.out;omega);have ney1:g≠w.heap.size+1+1:=(by have:=HGE.out;omega);have ney2:w.heap.size+1+1≠g:=(by have:=HGE.out;omega);have nel1:g≠w.heap.size+1+1+1:=(by have:=HGE.out;omega);have nel2:w.heap.size+1+1+1≠g:=(by have:=HGE.out;omega);have nee1:g≠w.heap.size+1+1+1+1:=(by have:=HGE.out;omega);have nee2:w.heap.size+1+1+1+1≠g:=(by have:=HGE.out;omega);have nyl:w.heap.size+1+1≠w.heap.size+1+1+1:=(by omega);have nye:w.heap.size+1+1≠w.heap.size+1+1+1+1:=(by omega);have nle:w.heap.size+1+1+1≠w.heap.size+1+1+1+1:=(by omega);have nyl':=nyl.symm;have nye':=nye.symm;have nle':=nle.symm;clear hbg hres;clear h8))
 generalize he:w.heap.size+1+1+1+1=ge at *
 have HG_e:=Aside0.mk he
 clear he
 generalize hl:w.heap.size+1+1+1=gl at *
 have HG_l:=Aside0.mk hl
 clear hl
 generalize hy:w.heap.size+1+1=gy at *
 have HG_y:=Aside0.mk hy
 clear hy
 go_region
 all_goals
  go_wp2
  have HST:=stores_ret (w7:=w8) BY8.out BL8.out BE8.out nyl nye nle (.int .i64 (((Nod.opened ⟨id,n,view,last,works,commit,log,acks,votes,told⟩).vote (⟨3,a1,a2,a3,a4,a5,a6,a7⟩:S28))).id) (.int .i64 (((Nod.opened ⟨id,n,view,last,works,commit,log,acks,votes,told⟩).vote (⟨3,a1,a2,a3,a4,a5,a6,a7⟩:S28))).n) (.int .i64 (((Nod.opened ⟨id,n,view,last,works,commit,log,acks,votes,told⟩).vote (⟨3,a1,a2,a3,a4,a5,a6,a7⟩:S28))).view) (.int .i64 (((Nod.opened ⟨id,n,view,last,works,commit,log,acks,votes,told⟩).vote (⟨3,a1,a2,a3,a4,a5,a6,a7⟩:S28))).last) (.bool (((Nod.opened ⟨id,n,view,last,works,commit,log,acks,votes,told⟩).vote (⟨3,a1,a2,a3,a4,a5,a6,a7⟩:S28))).works) (.int .i64 (((Nod.opened ⟨id,n,view,last,works,commit,log,acks,votes,told⟩).vote (⟨3,a1,a2,a3,a4,a5,a6,a7⟩:S28))).commit) (.slice D6 (((Nod.opened ⟨id,n,view,last,works,commit,log,acks,votes,told⟩).vote (⟨3,a1,a2,a3,a4,a5,a6,a7⟩:S28))).log.length d6) (.slice D7 (((Nod.opened ⟨id,n,view,last,works,commit,log,acks,votes,told⟩).vote (⟨3,a1,a2,a3,a4,a5,a6,a7⟩:S28))).acks.length d7) (.slice D8 (((Nod.opened ⟨id,n,view,last,works,commit,log,acks,votes,told⟩).vote (⟨3,a1,a2,a3,a4,a5,a6,a7⟩:S28))).votes.length d8) (.slice D9 (((Nod.opened ⟨id,n,view,last,works,commit,log,acks,votes,told⟩).vote (⟨3,a1,a2,a3,a4,a5,a6,a7⟩:S28))).told.length d9) (.int .i64 0)
  refine leaves_cons (f:=26) (args:=#[.pointer (some ⟨gy,0,none⟩),.pointer (some ⟨gl,0,none⟩),.pointer (some ⟨ge,0,none⟩)]) (by simp) (by kernel_rfl) ?_
  refine (caught_idle ⟨gy,0,none⟩ ⟨gl,0,none⟩ ⟨ge,0,none⟩ _).mono ?_
  rintro e u' w9 ⟨rfl,rfl,rfl⟩
  have E1:=HG_e.out
  have E2:=HG_l.out
  have E3:=HG_y.out
  have E4:=SZ5.out
  refine ⟨_,results_8 rfl _ _ gy gl ge 26 _ (0,0) _ _ rfl rfl rfl HST.1 rfl HST.2.1 HST.2.2.1,_,_,_,_,rfl,(HRES.out _ (fun k hk hl hg=>HST.2.2.2.1 k (by omega) (by omega) (by omega))).lower (by omega),HW8.out.trans (HST.2.2.2.2 _ (by omega) (by omega) (by omega))⟩
def Nod.logs (x:Nod) (s:ByteArray):Nod:={ x with log:=x.log++[s] }
theorem Did.log_core {w0 w:World} {base g:Nat} {ok:Nat→Prop} {x:Nod} {v0:Value} (h:Did w0 w base g ok x) (hc:w.cell? ⟨g,6,none⟩=some v0) :
  ∃ P:Nat→Prop,Kd.R Kd.string 9 w base P v0 x.log∧(∀ k,w.heap.size≤k→P k)∧base≤w.heap.size ∧
   ∀ s v1 w1,Kd.R Kd.string 9 w1 base P v1 (x.log++[s])→w.grownBy w1 v0.ownBlock→Did w0 (w1.setCell ⟨g,6,none⟩ v1) base g ok (x.logs s)∧w1.heap[g]?=w.heap[g]?:=by
 have hlt:=h.1.lt
 have hge:=h.1.ge
 have hbase:base≤w.heap.size:=by have:=h.2.2.1.size;have:=h.2.2.2.1;omega
 obtain ⟨v6,v7,v8,v9,P6,P7,P8,P9,hb6,hg,⟨hok,hok2⟩,h6,h7,h8,h9,ho,a6,a7,a8⟩:=h.1.bound
 have e6:v6=v0:=by
  have h1:w.cell? ⟨g,6,none⟩=some v6:=blk_cell hb6 6
  rw [h1] at hc
  exact Option.some.inj hc
 subst e6
 have hown:∀ k,v6.ownBlock=some k→P6 k:=h6.1
 have hP6:∀ k,P6 k→k < w.heap.size∧k≠g:=fun k hk=>⟨(ho k (.inl hk)).1.2.1,(ho k (.inl hk)).2⟩
 refine ⟨fun k=>P6 k∨w.heap.size≤k,Kd.R_mono h6 (fun k hk=>.inl hk),fun k hk=>.inr hk,hbase,?_⟩
 intro s v1 w1 hs hgr
 have hstay:∀ k,k < w.heap.size→¬ P6 k→w1.heap[k]?=w.heap[k]?:=fun k hk hn=>hgr.block k hk (fun e=>hn (hown k e.symm))
 have hg1:w1.heap[g]?=w.heap[g]?:=hstay g hlt (fun hp=>(hP6 g hp).2 rfl)
 have hsz:w.heap.size≤w1.heap.size:=hgr.size
 have hb1:w1.heap[g]?=some (.cells (x.cells v6 v7 v8 v9) 56 (0,0)):=hg1.trans hb6
 have hnd:Nd (w1.setCell ⟨g,6,none⟩ v1) base g (fun k=>ok k∨w0.heap.size≤k) (x.logs s):=by
  have hs0:w0.heap.size≤w.heap.size:=h.2.2.1.size
  refine ⟨v1,v7,v8,v9,fun k=>P6 k∨w.heap.size≤k,P7,P8,P9,blk_put (cs':=(x.logs s).cells v1 v7 v8 v9) hb1 6 _ rfl,hg,hok,?_,?_,?_,?_,?_,?_,a7,a8⟩
  ·exact Kd.R_far hs (fun k hp e=>by rcases hp with hp | hp;exact (hP6 k hp).2 e;have:k=g:=e;omega) _
  ·exact Kd.R_far (Kd.R_step h7 (fun k hp hl=>hstay k hl (fun h=>(a6 k h).1 hp))) (fun k hp=>(ho k (.inr (.inl hp))).2) _
  ·exact Kd.S_far (Kd.S_step h8 (fun k hp hl=>hstay k hl (fun h=>(a6 k h).2.1 hp))) (fun k hp=>(ho k (.inr (.inr (.inl hp)))).2) _
  ·exact Kd.S_far (Kd.S_step h9 (fun k hp hl=>hstay k hl (fun h=>(a6 k h).2.2 hp))) (fun k hp=>(ho k (.inr (.inr (.inr hp)))).2) _
  ·rintro k ((hk | hk) | hk | hk | hk)
   ·exact ⟨(ho k (.inl hk)).1.1,(ho k (.inl hk)).2⟩
   ·exact ⟨.inr (by omega),by omega⟩
   ·exact ⟨(ho k (.inr (.inl hk))).1.1,(ho k (.inr (.inl hk))).2⟩
   ·exact ⟨(ho k (.inr (.inr (.inl hk)))).1.1,(ho k (.inr (.inr (.inl hk)))).2⟩
   ·exact ⟨(ho k (.inr (.inr (.inr hk)))).1.1,(ho k (.inr (.inr (.inr hk)))).2⟩
  ·rintro k (hk | hk)
   ·exact a6 k hk
   ·exact ⟨fun h=>by have:=(ho k (.inr (.inl h))).1.2.1;omega,fun h=>by have:=(ho k (.inr (.inr (.inl h)))).1.2.1;omega,fun h=>by have:=(ho k (.inr (.inr (.inr h)))).1.2.1;omega⟩
 have hown6:∀ k,P6 k→(ok k∨w0.heap.size≤k)∧base≤k:=fun k hk=>⟨(ho k (.inl hk)).1.1,(ho k (.inl hk)).1.2.2⟩
 have hkept:Kept w0 w1 ok:=h.2.1.then_ (S2:=fun k=>P6 k) ⟨hsz,fun k hk hn=>hstay k hk hn⟩ (fun k hk=>(hown6 k hk).1)
 have hbel:Below base w0 w1:=h.2.2.1.trans ⟨hgr.os,hgr.tape,hgr.output,hsz,fun k hk=>hstay k (by omega) (fun hp=>by have:=(hown6 k hp).2;omega)⟩
 exact ⟨⟨hnd,hkept.setCell (.inl h.2.2.2.2) _,below_at hbel hge,h.2.2.2⟩,hg1⟩
theorem log_wp {w0 w:World} {base g:Nat} {ok:Nat→Prop} {x:Nod} {ops:Array Oper} {rest:List Oper} {o:Oper} {a:Act} {Q:Exit→Act→World→Prop} (t:ByteArray) (A6:Option Addr) (c6:Nat) (h:Did w0 w base g ok x) (hc:w.cell? ⟨g,6,none⟩=some (.slice A6 x.log.length c6)) (hl:x.log.length≤100000)
  (hg:o.guard=none) (s y:Operand) (ho:o.op=.call { callee:=.builtin .append,args:=#[s,y],argTypes:=#[22,22] }) (hs:a.eval s=.slice A6 x.log.length c6) (hy:a.eval y=.slice (some ⟨w.heap.size,0,none⟩) 1 1)
  (hk:∀ A1 c1 w1,Did w0 (w1.setCell ⟨g,6,none⟩ (.slice A1 (x.logs t).log.length c1)) base g ok (x.logs t)→w1.heap[g]?=w.heap[g]?→wpList Tryz.prog ops Q rest (a.put o.dst (.slice A1 (x.logs t).log.length c1)) w1) :
  wpList Tryz.prog ops Q (o::rest) a (w.alloc (.cells #[.string t] 9)):=by
 obtain ⟨P,hR,hP,hbase,hend⟩:=h.log_core hc
 refine Kd.R_append Kd.string (w0:=w) base hg s y 22 9 (.string ⟨#[]⟩) 16 ho Tryz.underlying22 info9 rfl (by decide) (by omega) _ x.log t [.string t] P (fun _=>False) hs hy rfl (fun k hk=>hk.elim) hP hR (Below.refl _ _) hbase (by have:=hl;omega) ?_
 intro v1 w1 hs1 hb1 hg1 _
 obtain ⟨A1,c1,rfl⟩:=Kd.R_slice hs1
 obtain ⟨hd,he⟩:=hend t _ w1 hs1 hg1
 exact hk A1 c1 w1 hd he
end Go.Proofs.YtfpfpckocemmdaaGreat.P
