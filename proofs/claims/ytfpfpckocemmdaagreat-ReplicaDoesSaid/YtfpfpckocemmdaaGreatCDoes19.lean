/- Part 19 of the walk. -/
import Derived.Test.YtfpfpckocemmdaaGreatCDoes17
set_option linter.unusedVariables false
set_option linter.unusedSimpArgs false
set_option maxHeartbeats 8000000
set_option maxRecDepth 100000
namespace Go.Proofs.YtfpfpckocemmdaaGreat.P
open Go.RowKit Go.Proofs.YtfpfpckocemmdaaGreatW.PrintWords Go.Proofs.YtfpfpckocemmdaaGreatW.PrintLast Go.Proofs.YtfpfpckocemmdaaGreatW.PrintMore
theorem handle_old (id n view last:Int) (works:Bool) (commit:Int) (log:List ByteArray) (acks:List Int) (votes:List S63) (told:List S28) (A6 A7 A8:Option Addr) (c6 c7 c8:Nat) (w:World) (h6:Kd.C Kd.string w A6 log.length log) (l6:log.length≤c6) (h7:Kd.C (Kd.int .i64) w A7 acks.length acks) (l7:acks.length≤c7) (h8:Kd.C k63 w A8 votes.length votes) (l8:votes.length≤c8)
  (hl:log.length < 4398046511104) (ha:acks.length < 4398046511104) (hvl:votes.length < 4398046511104) (hv:∀ v,v∈votes→v.f3.length < 4398046511104∧(Lit.int .i64 v.f0).wf=true) (m:S28) (A:Option Addr) (c:Nat) (hm:Kd.C Kd.string w A m.f7.length m.f7) (lm:m.f7.length≤c)
  (his:isB ⟨id,n,view,last,works,commit,log,acks,votes,told⟩=true) (hb:msgB m=true) (h_t:m.f2=id) (h_f:¬ m.f1=id) (h_n:¬ m.f1≥n) (h_v:¬ m.f3≥view) :
  Calls Tryz.prog 10 #[.agg #[id,n,view,last,works,commit,.slice A6 log.length c6,.slice A7 acks.length c7,.slice A8 votes.length c8],.agg #[m.f0,m.f1,m.f2,m.f3,m.f4,m.f5,m.f6,.slice A m.f7.length c]] w fun e w'=>∃ v6 v7 v8 v9,e=.returned (.tuple #[.agg #[.int .i64 (Nod.opened ⟨id,n,view,last,works,commit,log,acks,votes,told⟩).id,.int .i64 (Nod.opened ⟨id,n,view,last,works,commit,log,acks,votes,told⟩).n,.int .i64 (Nod.opened ⟨id,n,view,last,works,commit,log,acks,votes,told⟩).view,.int .i64 (Nod.opened ⟨id,n,view,last,works,commit,log,acks,votes,told⟩).last,.bool (Nod.opened ⟨id,n,view,last,works,commit,log,acks,votes,told⟩).works,.int .i64 (Nod.opened ⟨id,n,view,last,works,commit,log,acks,votes,told⟩).commit,v6,v7,v8],v9,.int .i64 0])∧Res w' w.heap.size (Nod.opened ⟨id,n,view,last,works,commit,log,acks,votes,told⟩) v6 v7 v8 v9∧Below w.heap.size w w':=by
 have hu26:=Tryz.underlying26
 have hu28:=Tryz.underlying28
 have hu56:=Tryz.underlying56
 have HR:=sd (right_of his)
 have hvs:votes.length≤900:=by have h1:=HR.out.count;have h2:=HR.out.n7;simp only at h1 h2;omega
 have hvt:∀ v,v∈votes→v.f3.length≤1000:=fun v hv=>by have h1:=(loggedB_len (votesB_all _ _ _ _ HR.out.votes v hv).2.2.2.2.2).1;omega
 obtain ⟨hw5,sz5,bx5,bm5,by5,bl5,be5⟩:=new5 w (.cells #[id,n,view,last,works,commit,.slice A6 log.length c6,.slice A7 acks.length c7,.slice A8 votes.length c8] 26) (.cells #[m.f0,m.f1,m.f2,m.f3,m.f4,m.f5,m.f6,.slice A m.f7.length c] 28) (.cells #[.int .i64 0,.int .i64 0,.int .i64 0,.int .i64 0,false,.int .i64 0,.slice none 0 0,.slice none 0 0,.slice none 0 0] 26) (.cells #[.slice none 0 0] 31) (.cells #[.int .i64 0] 32)
 have HW5:=sd hw5
 have SZ5:=sd sz5
 have BX5:=sd bx5
 have BM5:=sd bm5
 have BY5:=sd (five_zero by5)
 have BL5:=sd bl5
 have BE5:=sd be5
 clear hw5 sz5 bx5 bm5 by5 bl5 be5
 have H21:=sd (open_is id n view last works commit log acks votes told A6 A7 A8 c6 c7 c8 _ (Kd.C_below h6 HW5.out) l6 (Kd.C_below h7 HW5.out) l7 (Kd.C_below h8 HW5.out) l8 hl ha hvl hv his hvs hvt)
 have HMC:=sd (fun (W:World) (hb:Below w.heap.size w W)=>Kd.C_below hm hb)
 have LM:=sd lm
 obtain ⟨k,hk⟩:∃ k,101≤k:=⟨101,Nat.le_refl _⟩
 have HMS:=sd (msg_of k hk m)
 rw [hb] at HMS
 have ta:(m.f2==id)=true:=beq_iff_eq.mpr h_t
 have tb:(m.f2 != id)=false:=bne_eq_false_iff_eq.mpr h_t
 have fa:(m.f1==id)=false:=beq_eq_false_iff_ne.mpr h_f
 have fb:(m.f1 != id)=true:=bne_iff_ne.mpr h_f
 have na:decide (m.f1≥n)=false:=decide_eq_false h_n
 have nb:decide (n≤m.f1)=false:=decide_eq_false h_n
 have va:decide (m.f3≥view)=false:=decide_eq_false h_v
 have vb:decide (view≤m.f3)=false:=decide_eq_false h_v
 clear hb h_t h_f h_n h_v
 clear h6 l6 h7 l7 h8 l8 hl ha hvl hv his hvs hvt hm lm hk
 go_enter_defers Tryz.func10,Tryz.ntmps10
 go_wp2_with ((go_at_call 27;refine H21.out.mono ?_;rintro e w6 ⟨g,rfl,hN,hb6⟩;have HN6:=sd hN;have HW6:=sd (below_step HW5.out hb6);have SZ6:=sd (show w.heap.size+5≤w6.heap.size by have h1:=hb6.size;have h2:=SZ5.out;omega);have BX6:=sd ((hb6.block (w.heap.size) (by rw [SZ5.out];omega)).trans BX5.out);have BM6:=sd ((hb6.block (w.heap.size+1) (by rw [SZ5.out];omega)).trans BM5.out);have BY6:=sd ((hb6.block (w.heap.size+1+1) (by rw [SZ5.out];omega)).trans BY5.out);have BL6:=sd ((hb6.block (w.heap.size+1+1+1) (by rw [SZ5.out];omega)).trans BL5.out);have BE6:=sd ((hb6.block (w.heap.size+1+1+1+1) (by rw [SZ5.out];omega)).trans BE5.out);have px0:w6.cell? ⟨w.heap.size,0,none⟩=some (.int .i64 id):=blk_cell BX6.out 0;have px1:w6.cell? ⟨w.heap.size,1,none⟩=some (.int .i64 n):=blk_cell BX6.out 1;have px2:w6.cell? ⟨w.heap.size,2,none⟩=some (.int .i64 view):=blk_cell BX6.out 2;have pm0:w6.cell? ⟨w.heap.size+1,0,none⟩=some (.int .i64 m.f0):=blk_cell BM6.out 0;have pm1:w6.cell? ⟨w.heap.size+1,1,none⟩=some (.int .i64 m.f1):=blk_cell BM6.out 1;have pm2:w6.cell? ⟨w.heap.size+1,2,none⟩=some (.int .i64 m.f2):=blk_cell BM6.out 2;have pm3:w6.cell? ⟨w.heap.size+1,3,none⟩=some (.int .i64 m.f3):=blk_cell BM6.out 3;have pm4:w6.cell? ⟨w.heap.size+1,4,none⟩=some (.int .i64 m.f4):=blk_cell BM6.out 4;have pm5:w6.cell? ⟨w.heap.size+1,5,none⟩=some (.int .i64 m.f5):=blk_cell BM6.out 5;have pm6:w6.cell? ⟨w.heap.size+1,6,none⟩=some (.int .i64 m.f6):=blk_cell BM6.out 6;have pm7:w6.cell? ⟨w.heap.size+1,7,none⟩=some (.slice A m.f7.length c):=blk_cell BM6.out 7;clear hN hb6))
 refine (msg_Is.calls k m.f0 m.f1 m.f2 m.f3 m.f4 m.f5 m.f6 A c m.f7 true w6 (HMC.out _ HW6.out) LM.out HMS.out).mono ?_
 rintro e w7 ⟨rfl,hb7⟩
 have HN7:=sd (HN6.out.below hb7)
 have HW7:=sd (below_step HW6.out hb7)
 have SZ7:=sd (show w.heap.size+5≤w7.heap.size by have h1:=hb7.size;have h2:=SZ6.out;omega)
 have BX7:=sd ((hb7.block (w.heap.size) (by have:=SZ6.out;omega)).trans BX6.out)
 have BM7:=sd ((hb7.block (w.heap.size+1) (by have:=SZ6.out;omega)).trans BM6.out)
 have BY7:=sd ((hb7.block (w.heap.size+1+1) (by have:=SZ6.out;omega)).trans BY6.out)
 have BL7:=sd ((hb7.block (w.heap.size+1+1+1) (by have:=SZ6.out;omega)).trans BL6.out)
 have BE7:=sd ((hb7.block (w.heap.size+1+1+1+1) (by have:=SZ6.out;omega)).trans BE6.out)
 have qx0:w7.cell? ⟨w.heap.size,0,none⟩=some (.int .i64 id):=blk_cell BX7.out 0
 have qx1:w7.cell? ⟨w.heap.size,1,none⟩=some (.int .i64 n):=blk_cell BX7.out 1
 have qx2:w7.cell? ⟨w.heap.size,2,none⟩=some (.int .i64 view):=blk_cell BX7.out 2
 have qm0:w7.cell? ⟨w.heap.size+1,0,none⟩=some (.int .i64 m.f0):=blk_cell BM7.out 0
 have qm1:w7.cell? ⟨w.heap.size+1,1,none⟩=some (.int .i64 m.f1):=blk_cell BM7.out 1
 have qm2:w7.cell? ⟨w.heap.size+1,2,none⟩=some (.int .i64 m.f2):=blk_cell BM7.out 2
 have qm3:w7.cell? ⟨w.heap.size+1,3,none⟩=some (.int .i64 m.f3):=blk_cell BM7.out 3
 have qm4:w7.cell? ⟨w.heap.size+1,4,none⟩=some (.int .i64 m.f4):=blk_cell BM7.out 4
 have qm5:w7.cell? ⟨w.heap.size+1,5,none⟩=some (.int .i64 m.f5):=blk_cell BM7.out 5
 have qm6:w7.cell? ⟨w.heap.size+1,6,none⟩=some (.int .i64 m.f6):=blk_cell BM7.out 6
 have qm7:w7.cell? ⟨w.heap.size+1,7,none⟩=some (.slice A m.f7.length c):=blk_cell BM7.out 7
 obtain ⟨D6,d6,D7,d7,D8,d8,D9,d9,hbg,hres⟩:=HN7.out.res2
 have HRES:=sd hres
 have BG7:=sd hbg
 have tg0:w7.cell? ⟨g,0,none⟩=some (.int .i64 (Nod.opened ⟨id,n,view,last,works,commit,log,acks,votes,told⟩).id):=blk_cell hbg 0
 have tg1:w7.cell? ⟨g,1,none⟩=some (.int .i64 (Nod.opened ⟨id,n,view,last,works,commit,log,acks,votes,told⟩).n):=blk_cell hbg 1
 have tg2:w7.cell? ⟨g,2,none⟩=some (.int .i64 (Nod.opened ⟨id,n,view,last,works,commit,log,acks,votes,told⟩).view):=blk_cell hbg 2
 have tg3:w7.cell? ⟨g,3,none⟩=some (.int .i64 (Nod.opened ⟨id,n,view,last,works,commit,log,acks,votes,told⟩).last):=blk_cell hbg 3
 have tg4:w7.cell? ⟨g,4,none⟩=some (.bool (Nod.opened ⟨id,n,view,last,works,commit,log,acks,votes,told⟩).works):=blk_cell hbg 4
 have tg5:w7.cell? ⟨g,5,none⟩=some (.int .i64 (Nod.opened ⟨id,n,view,last,works,commit,log,acks,votes,told⟩).commit):=blk_cell hbg 5
 have tg6:w7.cell? ⟨g,6,none⟩=some (.slice D6 ((Nod.opened ⟨id,n,view,last,works,commit,log,acks,votes,told⟩)).log.length d6):=blk_cell hbg 6
 have tg7:w7.cell? ⟨g,7,none⟩=some (.slice D7 ((Nod.opened ⟨id,n,view,last,works,commit,log,acks,votes,told⟩)).acks.length d7):=blk_cell hbg 7
 have tg8:w7.cell? ⟨g,8,none⟩=some (.slice D8 ((Nod.opened ⟨id,n,view,last,works,commit,log,acks,votes,told⟩)).votes.length d8):=blk_cell hbg 8
 have tg9:w7.cell? ⟨g,9,none⟩=some (.slice D9 ((Nod.opened ⟨id,n,view,last,works,commit,log,acks,votes,told⟩)).told.length d9):=blk_cell hbg 9
 have ty0:w7.cell? ⟨w.heap.size+1+1,0,none⟩=some (.int .i64 0):=(blk_cell BY7.out 0).trans rfl
 have tf0:=blk_frozen BY7.out 0
 have ty1:w7.cell? ⟨w.heap.size+1+1,1,none⟩=some (.int .i64 0):=(blk_cell BY7.out 1).trans rfl
 have tf1:=blk_frozen BY7.out 1
 have ty2:w7.cell? ⟨w.heap.size+1+1,2,none⟩=some (.int .i64 0):=(blk_cell BY7.out 2).trans rfl
 have tf2:=blk_frozen BY7.out 2
 have ty3:w7.cell? ⟨w.heap.size+1+1,3,none⟩=some (.int .i64 0):=(blk_cell BY7.out 3).trans rfl
 have tf3:=blk_frozen BY7.out 3
 have ty4:w7.cell? ⟨w.heap.size+1+1,4,none⟩=some (.bool false):=(blk_cell BY7.out 4).trans rfl
 have tf4:=blk_frozen BY7.out 4
 have ty5:w7.cell? ⟨w.heap.size+1+1,5,none⟩=some (.int .i64 0):=(blk_cell BY7.out 5).trans rfl
 have tf5:=blk_frozen BY7.out 5
 have ty6:w7.cell? ⟨w.heap.size+1+1,6,none⟩=some (.slice none 0 0):=(blk_cell BY7.out 6).trans rfl
 have tf6:=blk_frozen BY7.out 6
 have ty7:w7.cell? ⟨w.heap.size+1+1,7,none⟩=some (.slice none 0 0):=(blk_cell BY7.out 7).trans rfl
 have tf7:=blk_frozen BY7.out 7
 have ty8:w7.cell? ⟨w.heap.size+1+1,8,none⟩=some (.slice none 0 0):=(blk_cell BY7.out 8).trans rfl
 have tf8:=blk_frozen BY7.out 8
 have tl0:w7.cell? ⟨w.heap.size+1+1+1,0,none⟩=some (.slice none 0 0):=(blk_cell BL7.out 0).trans rfl
 have tl1:=blk_frozen BL7.out 0
 have te0:w7.cell? ⟨w.heap.size+1+1+1+1,0,none⟩=some (.int .i64 0):=(blk_cell BE7.out 0).trans rfl
 have te1:=blk_frozen BE7.out 0
 have HGE:=sd (show w.heap.size+5≤g from by have h1:=HN7.out.ge;have h2:=SZ5.out;omega)
 have ney1:g≠w.heap.size+1+1:=(by have:=HGE.out;omega)
 have ney2:w.heap.size+1+1≠g:=(by have:=HGE.out;omega)
 have nel1:g≠w.heap.size+1+1+1:=(by have:=HGE.out;omega)
 have nel2:w.heap.size+1+1+1≠g:=(by have:=HGE.out;omega)
 have nee1:g≠w.heap.size+1+1+1+1:=(by have:=HGE.out;omega)
 have nee2:w.heap.size+1+1+1+1≠g:=(by have:=HGE.out;omega)
 have nyl:w.heap.size+1+1≠w.heap.size+1+1+1:=(by omega)
 have nye:w.heap.size+1+1≠w.heap.size+1+1+1+1:=(by omega)
 have nle:w.heap.size+1+1+1≠w.heap.size+1+1+1+1:=(by omega)
 have nyl':=nyl.symm
 have nye':=nye.symm
 have nle':=nle.symm
 clear hbg hres
 clear hb7
 go_wp2
 generalize he:w.heap.size+1+1+1+1=ge at *
 have HG_e:=sd he
 clear he
 generalize hl:w.heap.size+1+1+1=gl at *
 have HG_l:=sd hl
 clear hl
 generalize hy:w.heap.size+1+1=gy at *
 have HG_y:=sd hy
 clear hy
 go_region
 all_goals
  go_wp2
  have HST:=stores_ret (w7:=w7) BY7.out BL7.out BE7.out nyl nye nle (.int .i64 ((Nod.opened ⟨id,n,view,last,works,commit,log,acks,votes,told⟩)).id) (.int .i64 ((Nod.opened ⟨id,n,view,last,works,commit,log,acks,votes,told⟩)).n) (.int .i64 ((Nod.opened ⟨id,n,view,last,works,commit,log,acks,votes,told⟩)).view) (.int .i64 ((Nod.opened ⟨id,n,view,last,works,commit,log,acks,votes,told⟩)).last) (.bool ((Nod.opened ⟨id,n,view,last,works,commit,log,acks,votes,told⟩)).works) (.int .i64 ((Nod.opened ⟨id,n,view,last,works,commit,log,acks,votes,told⟩)).commit) (.slice D6 ((Nod.opened ⟨id,n,view,last,works,commit,log,acks,votes,told⟩)).log.length d6) (.slice D7 ((Nod.opened ⟨id,n,view,last,works,commit,log,acks,votes,told⟩)).acks.length d7) (.slice D8 ((Nod.opened ⟨id,n,view,last,works,commit,log,acks,votes,told⟩)).votes.length d8) (.slice D9 ((Nod.opened ⟨id,n,view,last,works,commit,log,acks,votes,told⟩)).told.length d9) (.int .i64 0)
  refine leaves_cons (f:=26) (args:=#[.pointer (some ⟨gy,0,none⟩),.pointer (some ⟨gl,0,none⟩),.pointer (some ⟨ge,0,none⟩)]) (by simp) (by kernel_rfl) ?_
  refine (caught_idle ⟨gy,0,none⟩ ⟨gl,0,none⟩ ⟨ge,0,none⟩ _).mono ?_
  rintro e u' w9 ⟨rfl,rfl,rfl⟩
  have E1:=HG_e.out
  have E2:=HG_l.out
  have E3:=HG_y.out
  have E4:=SZ5.out
  refine ⟨_,results_8 rfl _ _ gy gl ge 26 _ (0,0) _ _ rfl rfl rfl HST.1 rfl HST.2.1 HST.2.2.1,_,_,_,_,rfl,(HRES.out _ (fun k hk hl hg=>HST.2.2.2.1 k (by omega) (by omega) (by omega))).lower (by omega),HW7.out.trans (HST.2.2.2.2 _ (by omega) (by omega) (by omega))⟩
theorem check_run (b:Bool) (K:Int) (W:World):(Instr.checkKey b 10000 3 K).run Tryz.prog W=.ok () W:=by kernel_rfl
theorem find_run (K:Int) (l:List MapEntry) (r:Option (Nat×Value)) (W:World) (hf:Instr.findNow (.int .i64) K l 0=some r):(Instr.findKey 3 K l).run Tryz.prog W=.ok r W:=by
 unfold Instr.findKey
 simp only [Sem.run_bind,run_underlying Tryz.underlying3,Result.andThen_ok,hf,Sem.run_pure]
theorem ins_run (W:World) (mp:Nat) (es:Array MapEntry) (clock:Nat) (K:Int) (v:Value) (hb:W.heap[mp]?=some (.map es clock)) (hf:Instr.findNow (.int .i64) K es.toList 0=some none) :
  ∃ W',(Instr.mapUpdate 72 (.map (some mp)) K v).run Tryz.prog W=.ok () W'∧W'.heap[mp]?=some (.map (es.push { key:=.int .i64 K,val:=v,born:=clock }) (clock+1))∧(∀ k,k≠mp→W'.heap[k]?=W.heap[k]?)∧(∀ B,B≤mp→Below B W W'):=by
 have hlt:=blk_lt hb
 refine ⟨ChangeMaps.setBlock W mp (.map (es.push { key:=.int .i64 K,val:=v,born:=clock }) (clock+1)),?_,?_,?_,?_⟩
 ·unfold Instr.mapUpdate
  simp only [Sem.run_bind,run_underlying Tryz.underlying72,Result.andThen_ok,MapKept.run_getObj_map hb,check_run,find_run K _ _ _ hf,MapKept.run_setObj_map _ hb]
  rfl
 ·simp [ChangeMaps.setBlock,hlt]
 ·intro k hk
  simp [ChangeMaps.setBlock,Array.getElem?_setIfInBounds,Ne.symm hk]
 ·intro B hB
  refine ⟨rfl,rfl,rfl,by simp [ChangeMaps.setBlock],fun k hk=>?_⟩
  have:k≠mp:=by omega
  simp [ChangeMaps.setBlock,Array.getElem?_setIfInBounds,Ne.symm this]
theorem look_run (W:World) (mp:Nat) (es:Array MapEntry) (clock:Nat) (K:Int) (v:Value) (i:Nat) (hb:W.heap[mp]?=some (.map es clock)) (hf:Instr.findNow (.int .i64) K es.toList 0=some (some (i,v))) :
  (Instr.lookup 72 (.map (some mp)) K false).run Tryz.prog W=.ok v W:=by
 unfold Instr.lookup
 simp only [Sem.run_bind,run_underlying Tryz.underlying72,Result.andThen_ok,MapKept.run_getObj_map hb,check_run,find_run K _ _ _ hf,Sem.run_pure]
 rfl
theorem msg_facts {m:S28} (h:msgB m=true):0≤m.f3∧m.f7.length≤1000∧0≤m.f1:=by
 unfold msgB at h
 split at h
 ·rename_i hw
  simp only [Bool.and_eq_true,withinB_iff] at hw
  refine ⟨hw.2.1,?_,hw.1.1.1⟩
  split at h
  ·simp only [Bool.and_eq_true] at h
   have:=(loggedB_len h.1.1).1
   omega
  ·split at h
   ·simp only [Bool.and_eq_true,decide_eq_true_eq] at h
    omega
   ·split at h
    ·simp only [Bool.and_eq_true] at h
     have:=(loggedB_len h.1.1).1
     omega
    ·cases h
 ·cases h
theorem opened_votes {x:Nod} (h:Right x):x.opened.votes.length≤900:=by
 rw [h.opened]
 have h1:=h.count
 have h2:=h.n7
 show x.votes.length≤900
 omega
theorem prepare_not (x:Nod) (m:S28) (A:Option Addr) (c:Nat) (w0 w:World) (base g:Nat) (ok:Nat→Prop) (hn0:1≤x.n) (hv:0≤m.f3) (hp:¬ m.f3 % x.n=m.f1) (h:Did w0 w base g ok x) :
  Calls Tryz.prog 45 #[.pointer (some ⟨g,0,none⟩),.agg #[m.f0,m.f1,m.f2,m.f3,m.f4,m.f5,m.f6,.slice A m.f7.length c]] w fun e w'=>e=.returned (.tuple #[])∧Did w0 w' base g ok x:=by
 have hu56:=Tryz.underlying56
 have hu26:=Tryz.underlying26
 have hu28:=Tryz.underlying28
 have HN:=sd h
 have HP:=sd (primary_of m.f3 x.n hv hn0)
 obtain ⟨A6,c6,A7,c7,A8,c8,A9,c9,hb,-⟩:=(h.boxed (.cells #[m.f0,m.f1,m.f2,m.f3,m.f4,m.f5,m.f6,.slice A m.f7.length c] 28)).blk
 have hc1:(w.alloc (.cells #[m.f0,m.f1,m.f2,m.f3,m.f4,m.f5,m.f6,.slice A m.f7.length c] 28)).cell? ⟨g,1,none⟩=some (.int .i64 x.n):=blk_cell hb 1
 have hbx:(w.alloc (.cells #[m.f0,m.f1,m.f2,m.f3,m.f4,m.f5,m.f6,.slice A m.f7.length c] 28)).cell? ⟨w.heap.size,3,none⟩=some (.int .i64 m.f3):=blk_cell (x_alloc_new w _) 3
 have hby:(w.alloc (.cells #[m.f0,m.f1,m.f2,m.f3,m.f4,m.f5,m.f6,.slice A m.f7.length c] 28)).cell? ⟨w.heap.size,1,none⟩=some (.int .i64 m.f1):=blk_cell (x_alloc_new w _) 1
 generalize hpp:m.f3 % x.n=p at *
 have e1:(p==m.f1)=false:=beq_eq_false_iff_ne.mpr hp
 have e2:(p != m.f1)=true:=bne_iff_ne.mpr hp
 clear hb h hp hv hn0 hpp
 go_enter Tryz.func45,Tryz.ntmps45
 go_wp2
 go_region_held3 (fun W=>W.cell? ⟨g,1,none⟩=some (.int .i64 x.n)∧W.cell? ⟨w.heap.size,3,none⟩=some (.int .i64 m.f3))
  ((exact ⟨hc1,hbx⟩))
  ((refine x_step_call rfl Tryz.func36 (by kernel_rfl) rfl #[m.f3,x.n] rfl (by simp [Act.eval,Act.put]) ?_;refine (quorum_Primary.calls m.f3 x.n p true _ HP.out).mono ?_;rintro e w' ⟨rfl,⟨nd,rfl⟩⟩;refine ⟨_,rfl,?_⟩))
 go_wp2
 refine bodyPost_ret (results_none rfl _ _ _) rfl ?_
 exact ⟨rfl,HN.out.unbox ((HN.out.boxed _).drewN _)⟩
end Go.Proofs.YtfpfpckocemmdaaGreat.P
