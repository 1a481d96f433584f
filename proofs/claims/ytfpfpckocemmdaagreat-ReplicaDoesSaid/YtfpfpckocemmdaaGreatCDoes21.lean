/- Part 21 of the walk. -/
import Derived.Test.YtfpfpckocemmdaaGreatCDoes19
set_option linter.unusedVariables false
set_option linter.unusedSimpArgs false
set_option maxHeartbeats 8000000
set_option maxRecDepth 100000
namespace Go.Proofs.YtfpfpckocemmdaaGreat.P
open Go.RowKit Go.Proofs.YtfpfpckocemmdaaGreatW.PrintWords Go.Proofs.YtfpfpckocemmdaaGreatW.PrintLast Go.Proofs.YtfpfpckocemmdaaGreatW.PrintMore
theorem prepare_same (x:Nod) (m:S28) (A:Option Addr) (c:Nat) (w0 w:World) (base g:Nat) (ok:Nat→Prop) (hn0:1≤x.n) (hn1:x.n≤1000) (hv:0≤m.f3) (hp:m.f3 % x.n=m.f1) (ht:x.told.length≤1000) (hc:m.f7.length≤c) (hl:m.f7.length≤1000) (hl0:x.log.length≤1000) (hM:∀ W,Below base w0 W→Kd.C Kd.string W A m.f7.length m.f7) (hw:x.works=true) (hv2:¬ m.f3 > x.view) (hll:¬ m.f7.length > x.log.length) (h:Did w0 w base g ok x) :
  Calls Tryz.prog 45 #[.pointer (some ⟨g,0,none⟩),.agg #[.int .i64 m.f0,.int .i64 m.f1,.int .i64 m.f2,.int .i64 m.f3,.int .i64 m.f4,.int .i64 m.f5,.int .i64 m.f6,.slice A m.f7.length c]] w fun e w'=>e=.returned (.tuple #[])∧Did w0 w' base g ok (let z:=(x.takes m).settle m;z.say (z.ackOf m)):=by
 have hu56:=Tryz.underlying56
 have hu26:=Tryz.underlying26
 have hu28:=Tryz.underlying28
 have HN:=sd h
 have HD:=sd (h.boxed (.cells #[.int .i64 m.f0,.int .i64 m.f1,.int .i64 m.f2,.int .i64 m.f3,.int .i64 m.f4,.int .i64 m.f5,.int .i64 m.f6,.slice A m.f7.length c] 28))
 have HP:=sd (primary_of m.f3 x.n hv hn0)
 have HCL:=sd (show slices_Clone_string_string.f m.f7=some m.f7 from if_pos (by omega))
 have HCC:=sd hc
 have HM:=sd hM
 have HN0:=sd hn0
 have HN1:=sd hn1
 have HT:=sd ht
 have HL:=sd hl
 have HL0:=sd hl0
 have hlt:=h.1.lt
 obtain ⟨A6,c6,A7,c7,A8,c8,A9,c9,hb,-⟩:=HD.out.blk
 have HB:=sd hb
 have hc1:(w.alloc (.cells #[.int .i64 m.f0,.int .i64 m.f1,.int .i64 m.f2,.int .i64 m.f3,.int .i64 m.f4,.int .i64 m.f5,.int .i64 m.f6,.slice A m.f7.length c] 28)).cell? ⟨g,1,none⟩=some (.int .i64 x.n):=blk_cell hb 1
 have hc2:(w.alloc (.cells #[.int .i64 m.f0,.int .i64 m.f1,.int .i64 m.f2,.int .i64 m.f3,.int .i64 m.f4,.int .i64 m.f5,.int .i64 m.f6,.slice A m.f7.length c] 28)).cell? ⟨g,2,none⟩=some (.int .i64 x.view):=blk_cell hb 2
 have hc3:(w.alloc (.cells #[.int .i64 m.f0,.int .i64 m.f1,.int .i64 m.f2,.int .i64 m.f3,.int .i64 m.f4,.int .i64 m.f5,.int .i64 m.f6,.slice A m.f7.length c] 28)).cell? ⟨g,3,none⟩=some (.int .i64 x.last):=blk_cell hb 3
 have hc4:(w.alloc (.cells #[.int .i64 m.f0,.int .i64 m.f1,.int .i64 m.f2,.int .i64 m.f3,.int .i64 m.f4,.int .i64 m.f5,.int .i64 m.f6,.slice A m.f7.length c] 28)).cell? ⟨g,4,none⟩=some (.bool x.works):=blk_cell hb 4
 have hc5:(w.alloc (.cells #[.int .i64 m.f0,.int .i64 m.f1,.int .i64 m.f2,.int .i64 m.f3,.int .i64 m.f4,.int .i64 m.f5,.int .i64 m.f6,.slice A m.f7.length c] 28)).cell? ⟨g,5,none⟩=some (.int .i64 x.commit):=blk_cell hb 5
 have hc6:(w.alloc (.cells #[.int .i64 m.f0,.int .i64 m.f1,.int .i64 m.f2,.int .i64 m.f3,.int .i64 m.f4,.int .i64 m.f5,.int .i64 m.f6,.slice A m.f7.length c] 28)).cell? ⟨g,6,none⟩=some (.slice A6 x.log.length c6):=blk_cell hb 6
 have hf2:(w.alloc (.cells #[.int .i64 m.f0,.int .i64 m.f1,.int .i64 m.f2,.int .i64 m.f3,.int .i64 m.f4,.int .i64 m.f5,.int .i64 m.f6,.slice A m.f7.length c] 28)).frozen? ⟨g,2,none⟩=false:=blk_frozen hb 2
 have hf3:(w.alloc (.cells #[.int .i64 m.f0,.int .i64 m.f1,.int .i64 m.f2,.int .i64 m.f3,.int .i64 m.f4,.int .i64 m.f5,.int .i64 m.f6,.slice A m.f7.length c] 28)).frozen? ⟨g,3,none⟩=false:=blk_frozen hb 3
 have hf4:(w.alloc (.cells #[.int .i64 m.f0,.int .i64 m.f1,.int .i64 m.f2,.int .i64 m.f3,.int .i64 m.f4,.int .i64 m.f5,.int .i64 m.f6,.slice A m.f7.length c] 28)).frozen? ⟨g,4,none⟩=false:=blk_frozen hb 4
 have hf5:(w.alloc (.cells #[.int .i64 m.f0,.int .i64 m.f1,.int .i64 m.f2,.int .i64 m.f3,.int .i64 m.f4,.int .i64 m.f5,.int .i64 m.f6,.slice A m.f7.length c] 28)).frozen? ⟨g,5,none⟩=false:=blk_frozen hb 5
 have hf6:(w.alloc (.cells #[.int .i64 m.f0,.int .i64 m.f1,.int .i64 m.f2,.int .i64 m.f3,.int .i64 m.f4,.int .i64 m.f5,.int .i64 m.f6,.slice A m.f7.length c] 28)).frozen? ⟨g,6,none⟩=false:=blk_frozen hb 6
 have hb1:(w.alloc (.cells #[.int .i64 m.f0,.int .i64 m.f1,.int .i64 m.f2,.int .i64 m.f3,.int .i64 m.f4,.int .i64 m.f5,.int .i64 m.f6,.slice A m.f7.length c] 28)).cell? ⟨w.heap.size,1,none⟩=some (.int .i64 m.f1):=blk_cell (x_alloc_new w _) 1
 have hb3:(w.alloc (.cells #[.int .i64 m.f0,.int .i64 m.f1,.int .i64 m.f2,.int .i64 m.f3,.int .i64 m.f4,.int .i64 m.f5,.int .i64 m.f6,.slice A m.f7.length c] 28)).cell? ⟨w.heap.size,3,none⟩=some (.int .i64 m.f3):=blk_cell (x_alloc_new w _) 3
 have hb5:(w.alloc (.cells #[.int .i64 m.f0,.int .i64 m.f1,.int .i64 m.f2,.int .i64 m.f3,.int .i64 m.f4,.int .i64 m.f5,.int .i64 m.f6,.slice A m.f7.length c] 28)).cell? ⟨w.heap.size,5,none⟩=some (.int .i64 m.f5):=blk_cell (x_alloc_new w _) 5
 have hb7:(w.alloc (.cells #[.int .i64 m.f0,.int .i64 m.f1,.int .i64 m.f2,.int .i64 m.f3,.int .i64 m.f4,.int .i64 m.f5,.int .i64 m.f6,.slice A m.f7.length c] 28)).cell? ⟨w.heap.size,7,none⟩=some (.slice A m.f7.length c):=blk_cell (x_alloc_new w _) 7
 have hne1:g≠w.heap.size:=by have:g < w.heap.size:=hlt;omega
 have hne2:w.heap.size≠g:=hne1.symm
 generalize hpp:m.f3 % x.n=p at *
 have e1:(p==m.f1)=true:=beq_iff_eq.mpr hp
 have e2:(p != m.f1)=false:=bne_eq_false_iff_eq.mpr hp
 have HPP:=sd hp
 clear hb h hp hv hn0 hpp hc hl hl0 ht hn1 hM hlt
 obtain ⟨y,hy⟩:∃ y,y=x.takes m:=⟨_,rfl⟩
 have HE:=sd (show y=x by rw [hy];unfold Nod.takes;rw [if_neg (by simp [hw];omega),if_neg hll])
 have HTY:=sd (show y.told.length≤100000 by rw [HE.out];have:=HT.out;show x.told.length≤_;omega)
 have HZ:=sd (show (let z:=(x.takes m).settle m;z.say (z.ackOf m))=(y.settle m).say ((y.settle m).ackOf m) by rw [hy])
 clear hy
 have g1:decide (m.f3 > x.view)=false:=decide_eq_false hv2
 have g2:decide (x.view < m.f3)=false:=decide_eq_false hv2
 rw [hw] at hc4
 have g3:decide ((m.f7.length:Int) > (x.log.length:Int))=false:=decide_eq_false (by omega)
 have g4:decide ((x.log.length:Int) < (m.f7.length:Int))=false:=decide_eq_false (by omega)
 have g5:(x.log.length < m.f7.length)=False:=eq_false hll
 clear hw hv2 hll
 go_enter Tryz.func45,Tryz.ntmps45
 go_wp2
 go_region_held3 (fun W=>W.cell? ⟨g,1,none⟩=some (.int .i64 x.n)∧W.cell? ⟨w.heap.size,3,none⟩=some (.int .i64 m.f3))
  ((exact ⟨hc1,hb3⟩))
  ((refine x_step_call rfl Tryz.func36 (by kernel_rfl) rfl #[.int .i64 m.f3,.int .i64 x.n] rfl (by simp [Act.eval,Act.put]) ?_;refine (quorum_Primary.calls m.f3 x.n p true _ HP.out).mono ?_;rintro e w' ⟨rfl,⟨nd,rfl⟩⟩;refine ⟨_,rfl,?_⟩))
 rename_i hh
 clear hh
 go_wp2
 go_region
 go_wp2
 go_region
 go_wp2
 have h6:=HD.out.drewN (1+nd+1+1)
 rw [← HE.out] at h6
 generalize hw6:(w.alloc (.cells #[.int .i64 m.f0,.int .i64 m.f1,.int .i64 m.f2,.int .i64 m.f3,.int .i64 m.f4,.int .i64 m.f5,.int .i64 m.f6,.slice A m.f7.length c] 28)).drewN (1+nd+1+1)=w6 at *
 have HD6:=sd h6
 have HBX6:=sd h6.box
 obtain ⟨D6,d6,D7,d7,D8,d8,D9,d9,hbk,-⟩:=h6.blk
 have hr5:w6.cell? ⟨g,5,none⟩=some (.int .i64 y.commit):=blk_cell hbk 5
 have hr6:w6.cell? ⟨g,6,none⟩=some (.slice D6 y.log.length d6):=blk_cell hbk 6
 have hq5:w6.frozen? ⟨g,5,none⟩=false:=blk_frozen hbk 5
 have hx5:w6.cell? ⟨w.heap.size,5,none⟩=some (.int .i64 m.f5):=blk_cell HBX6.out 5
 clear h6 hbk hw6
 go_region
 go_wp2
 have HD7:=sd (show Did _ ((w6.setCell ⟨g,5,none⟩ (.int .i64 (min (max y.commit m.f5) (y.log.length:Int)))).drew) base g _ (y.settle m) from (HD6.out.set_commit (min (max y.commit m.f5) (y.log.length:Int))).drew)
 clear hc1 hc2 hc3 hc4 hc5 hc6 hf2 hf3 hf4 hf5 hf6 hb1 hb3 hb5 hb7
 clear hr5 hr6 hq5 hx5
 generalize hW7:(w6.setCell ⟨g,5,none⟩ (.int .i64 (min (max y.commit m.f5) (y.log.length:Int)))).drew=W7 at *
 clear hW7
 have HBX7:=sd HD7.out.box
 obtain ⟨E6,f6,E7,f7,E8,f8,E9,f9,hbk,-⟩:=HD7.out.blk
 have HBK7:=sd hbk
 have hs0:W7.cell? ⟨g,0,none⟩=some (.int .i64 (y.settle m).id):=blk_cell hbk 0
 have hs2:W7.cell? ⟨g,2,none⟩=some (.int .i64 (y.settle m).view):=blk_cell hbk 2
 have hs6:W7.cell? ⟨g,6,none⟩=some (.slice E6 (y.settle m).log.length f6):=blk_cell hbk 6
 have hs9:W7.cell? ⟨g,9,none⟩=some (.slice E9 (y.settle m).told.length f9):=blk_cell hbk 9
 have hx1:W7.cell? ⟨w.heap.size,1,none⟩=some (.int .i64 m.f1):=blk_cell HBX7.out 1
 have HC9:=sd (show W7.drew.cell? ⟨g,9,none⟩=_ from hs9)
 have HTI:=sd (show (y.settle m).told.length≤100000 from HTY.out)
 have HBKD:=sd (show W7.drew.heap[g]?=some _ from hbk)
 have HBXD:=sd (show W7.drew.heap[w.heap.size]?=some _ from HBX7.out)
 have HNE:=sd hne1
 clear hbk
 generalize hz:y.settle m=z at *
 rw [ldTold_eq 103]
 go_region_held3 (fun W=>W.cell? ⟨g,0,none⟩=some (.int .i64 z.id)∧W.cell? ⟨g,2,none⟩=some (.int .i64 z.view)∧W.cell? ⟨g,6,none⟩=some (.slice E6 z.log.length f6)∧W.cell? ⟨w.heap.size,1,none⟩=some (.int .i64 m.f1))
  (first | exact ⟨hs0,hs2,hs6,hx1⟩ | exact ⟨blk_cell HBK8.out 0,blk_cell HBK8.out 2,blk_cell HBK8.out 6,blk_cell HBX8.out 1⟩ | exact ⟨blk_cell (blk_alloc HBK8.out _) 0,blk_cell (blk_alloc HBK8.out _) 2,blk_cell (blk_alloc HBK8.out _) 6,blk_cell (blk_alloc HBX8.out _) 1⟩ | exact ⟨blk_cell HBK4.out 0,blk_cell HBK4.out 2,blk_cell HBK4.out 6,blk_cell HBX4.out 1⟩ | exact ⟨blk_cell HBK5.out 0,blk_cell HBK5.out 2,blk_cell HBK5.out 6,blk_cell HBX5.out 1⟩)
  (first | (refine x_step_call rfl Tryz.func79 (by kernel_rfl) rfl #[.int .i64 z.id,.int .i64 m.f1,.int .i64 z.view,.int .i64 (z.log.length:Int)] rfl (by simp [Act.eval,Act.put]) ?_;refine (ack_calls z.id m.f1 z.view (z.log.length:Int) W7.drew).mono ?_;rintro e w8 ⟨rfl,hb8⟩;have HB8:=sd hb8;have HBK8:=sd ((hb8.block g (blk_lt HBKD.out)).trans HBKD.out);have HBX8:=sd ((hb8.block w.heap.size (blk_lt HBXD.out)).trans HBXD.out);have hs9':∀ o,(w8.alloc o).cell? ⟨g,9,none⟩=some (.slice E9 z.told.length f9):=fun o=>blk_cell (blk_alloc HBK8.out o) 9;have hs9'':w8.cell? ⟨g,9,none⟩=some (.slice E9 z.told.length f9):=blk_cell HBK8.out 9;clear hb8;refine ⟨_,rfl,?_⟩) | (refine say_step (z.ackOf m) E9 f9 none 0 (HD7.out.drew) HB8.out (HC9.out) (Kd.R_nil _ _ _ _ _) HTI.out rfl (.tmp 104) (.tmp 124) rfl rfl rfl ?_;intro v1 w9 hd9 hg9 hv9;obtain ⟨A1,c1,rfl⟩:=hv9;have HD9:=sd hd9;have HBK4:=sd (hg9.trans HBKD.out);have HBX4:=sd ((blk_far_inv (p:=⟨g,9,none⟩) hd9.box HNE.out.symm));have HBX5:=sd hd9.box;have HBK5:=sd (blk_put (cs':=z.cells (.slice E6 z.log.length f6) (.slice E7 z.acks.length f7) (.slice E8 z.votes.length f8) (.slice A1 (z.say (z.ackOf m)).told.length c1)) HBK4.out 9 (.slice A1 (z.say (z.ackOf m)).told.length c1) rfl);have hr9:w9.cell? ⟨g,9,none⟩=some (.slice E9 z.told.length f9):=blk_cell HBK4.out 9;have hf9:w9.frozen? ⟨g,9,none⟩=false:=blk_frozen HBK4.out 9;clear hd9 hg9))
 all_goals
  go_wp2
  go_end0
  exact ⟨rfl,by rw [HZ.out];exact HN.out.unbox HD9.out⟩
theorem prepare_joins (x:Nod) (m:S28) (A:Option Addr) (c:Nat) (w0 w:World) (base g:Nat) (ok:Nat→Prop) (hn0:1≤x.n) (hn1:x.n≤1000) (hv:0≤m.f3) (hp:m.f3 % x.n=m.f1) (ht:x.told.length≤1000) (hc:m.f7.length≤c) (hl:m.f7.length≤1000) (hl0:x.log.length≤1000) (hM:∀ W,Below base w0 W→Kd.C Kd.string W A m.f7.length m.f7) (hw:x.works=false) (hv2:¬ m.f3 > x.view) (h:Did w0 w base g ok x) :
  Calls Tryz.prog 45 #[.pointer (some ⟨g,0,none⟩),.agg #[.int .i64 m.f0,.int .i64 m.f1,.int .i64 m.f2,.int .i64 m.f3,.int .i64 m.f4,.int .i64 m.f5,.int .i64 m.f6,.slice A m.f7.length c]] w fun e w'=>e=.returned (.tuple #[])∧Did w0 w' base g ok (let z:=(x.takes m).settle m;z.say (z.ackOf m)):=by
 have hu56:=Tryz.underlying56
 have hu26:=Tryz.underlying26
 have hu28:=Tryz.underlying28
 have HN:=sd h
 have HD:=sd (h.boxed (.cells #[.int .i64 m.f0,.int .i64 m.f1,.int .i64 m.f2,.int .i64 m.f3,.int .i64 m.f4,.int .i64 m.f5,.int .i64 m.f6,.slice A m.f7.length c] 28))
 have HP:=sd (primary_of m.f3 x.n hv hn0)
 have HCL:=sd (show slices_Clone_string_string.f m.f7=some m.f7 from if_pos (by omega))
 have HCC:=sd hc
 have HM:=sd hM
 have HN0:=sd hn0
 have HN1:=sd hn1
 have HT:=sd ht
 have HL:=sd hl
 have HL0:=sd hl0
 have hlt:=h.1.lt
 obtain ⟨A6,c6,A7,c7,A8,c8,A9,c9,hb,-⟩:=HD.out.blk
 have HB:=sd hb
 have hc1:(w.alloc (.cells #[.int .i64 m.f0,.int .i64 m.f1,.int .i64 m.f2,.int .i64 m.f3,.int .i64 m.f4,.int .i64 m.f5,.int .i64 m.f6,.slice A m.f7.length c] 28)).cell? ⟨g,1,none⟩=some (.int .i64 x.n):=blk_cell hb 1
 have hc2:(w.alloc (.cells #[.int .i64 m.f0,.int .i64 m.f1,.int .i64 m.f2,.int .i64 m.f3,.int .i64 m.f4,.int .i64 m.f5,.int .i64 m.f6,.slice A m.f7.length c] 28)).cell? ⟨g,2,none⟩=some (.int .i64 x.view):=blk_cell hb 2
 have hc3:(w.alloc (.cells #[.int .i64 m.f0,.int .i64 m.f1,.int .i64 m.f2,.int .i64 m.f3,.int .i64 m.f4,.int .i64 m.f5,.int .i64 m.f6,.slice A m.f7.length c] 28)).cell? ⟨g,3,none⟩=some (.int .i64 x.last):=blk_cell hb 3
 have hc4:(w.alloc (.cells #[.int .i64 m.f0,.int .i64 m.f1,.int .i64 m.f2,.int .i64 m.f3,.int .i64 m.f4,.int .i64 m.f5,.int .i64 m.f6,.slice A m.f7.length c] 28)).cell? ⟨g,4,none⟩=some (.bool x.works):=blk_cell hb 4
 have hc5:(w.alloc (.cells #[.int .i64 m.f0,.int .i64 m.f1,.int .i64 m.f2,.int .i64 m.f3,.int .i64 m.f4,.int .i64 m.f5,.int .i64 m.f6,.slice A m.f7.length c] 28)).cell? ⟨g,5,none⟩=some (.int .i64 x.commit):=blk_cell hb 5
 have hc6:(w.alloc (.cells #[.int .i64 m.f0,.int .i64 m.f1,.int .i64 m.f2,.int .i64 m.f3,.int .i64 m.f4,.int .i64 m.f5,.int .i64 m.f6,.slice A m.f7.length c] 28)).cell? ⟨g,6,none⟩=some (.slice A6 x.log.length c6):=blk_cell hb 6
 have hf2:(w.alloc (.cells #[.int .i64 m.f0,.int .i64 m.f1,.int .i64 m.f2,.int .i64 m.f3,.int .i64 m.f4,.int .i64 m.f5,.int .i64 m.f6,.slice A m.f7.length c] 28)).frozen? ⟨g,2,none⟩=false:=blk_frozen hb 2
 have hf3:(w.alloc (.cells #[.int .i64 m.f0,.int .i64 m.f1,.int .i64 m.f2,.int .i64 m.f3,.int .i64 m.f4,.int .i64 m.f5,.int .i64 m.f6,.slice A m.f7.length c] 28)).frozen? ⟨g,3,none⟩=false:=blk_frozen hb 3
 have hf4:(w.alloc (.cells #[.int .i64 m.f0,.int .i64 m.f1,.int .i64 m.f2,.int .i64 m.f3,.int .i64 m.f4,.int .i64 m.f5,.int .i64 m.f6,.slice A m.f7.length c] 28)).frozen? ⟨g,4,none⟩=false:=blk_frozen hb 4
 have hf5:(w.alloc (.cells #[.int .i64 m.f0,.int .i64 m.f1,.int .i64 m.f2,.int .i64 m.f3,.int .i64 m.f4,.int .i64 m.f5,.int .i64 m.f6,.slice A m.f7.length c] 28)).frozen? ⟨g,5,none⟩=false:=blk_frozen hb 5
 have hf6:(w.alloc (.cells #[.int .i64 m.f0,.int .i64 m.f1,.int .i64 m.f2,.int .i64 m.f3,.int .i64 m.f4,.int .i64 m.f5,.int .i64 m.f6,.slice A m.f7.length c] 28)).frozen? ⟨g,6,none⟩=false:=blk_frozen hb 6
 have hb1:(w.alloc (.cells #[.int .i64 m.f0,.int .i64 m.f1,.int .i64 m.f2,.int .i64 m.f3,.int .i64 m.f4,.int .i64 m.f5,.int .i64 m.f6,.slice A m.f7.length c] 28)).cell? ⟨w.heap.size,1,none⟩=some (.int .i64 m.f1):=blk_cell (x_alloc_new w _) 1
 have hb3:(w.alloc (.cells #[.int .i64 m.f0,.int .i64 m.f1,.int .i64 m.f2,.int .i64 m.f3,.int .i64 m.f4,.int .i64 m.f5,.int .i64 m.f6,.slice A m.f7.length c] 28)).cell? ⟨w.heap.size,3,none⟩=some (.int .i64 m.f3):=blk_cell (x_alloc_new w _) 3
 have hb5:(w.alloc (.cells #[.int .i64 m.f0,.int .i64 m.f1,.int .i64 m.f2,.int .i64 m.f3,.int .i64 m.f4,.int .i64 m.f5,.int .i64 m.f6,.slice A m.f7.length c] 28)).cell? ⟨w.heap.size,5,none⟩=some (.int .i64 m.f5):=blk_cell (x_alloc_new w _) 5
 have hb7:(w.alloc (.cells #[.int .i64 m.f0,.int .i64 m.f1,.int .i64 m.f2,.int .i64 m.f3,.int .i64 m.f4,.int .i64 m.f5,.int .i64 m.f6,.slice A m.f7.length c] 28)).cell? ⟨w.heap.size,7,none⟩=some (.slice A m.f7.length c):=blk_cell (x_alloc_new w _) 7
 have hne1:g≠w.heap.size:=by have:g < w.heap.size:=hlt;omega
 have hne2:w.heap.size≠g:=hne1.symm
 generalize hpp:m.f3 % x.n=p at *
 have e1:(p==m.f1)=true:=beq_iff_eq.mpr hp
 have e2:(p != m.f1)=false:=bne_eq_false_iff_eq.mpr hp
 have HPP:=sd hp
 clear hb h hp hv hn0 hpp hc hl hl0 ht hn1 hM hlt
 obtain ⟨y,hy⟩:∃ y,y=x.takes m:=⟨_,rfl⟩
 have HE:=sd (show y=Nod.clear { x with view:=m.f3,works:=true,last:=m.f3,log:=m.f7 } by rw [hy];unfold Nod.takes;rw [if_pos (.inr hw)])
 have HTY:=sd (show y.told.length≤100000 by rw [HE.out];have:=HT.out;show x.told.length≤_;omega)
 have HZ:=sd (show (let z:=(x.takes m).settle m;z.say (z.ackOf m))=(y.settle m).say ((y.settle m).ackOf m) by rw [hy])
 clear hy
 have g1:decide (m.f3 > x.view)=false:=decide_eq_false hv2
 have g2:decide (x.view < m.f3)=false:=decide_eq_false hv2
 rw [hw] at hc4
 clear hw hv2
 go_enter Tryz.func45,Tryz.ntmps45
 go_wp2
 go_region_held3 (fun W=>W.cell? ⟨g,1,none⟩=some (.int .i64 x.n)∧W.cell? ⟨w.heap.size,3,none⟩=some (.int .i64 m.f3))
  ((exact ⟨hc1,hb3⟩))
  ((refine x_step_call rfl Tryz.func36 (by kernel_rfl) rfl #[.int .i64 m.f3,.int .i64 x.n] rfl (by simp [Act.eval,Act.put]) ?_;refine (quorum_Primary.calls m.f3 x.n p true _ HP.out).mono ?_;rintro e w' ⟨rfl,⟨nd,rfl⟩⟩;refine ⟨_,rfl,?_⟩))
 rename_i hh
 clear hh
 go_wp2
 go_region
 go_wp2
 go_region
 go_wp2_with (first | (go_at_call 66;refine (slices_Clone_string_string.calls A c m.f7 m.f7 _ (HN.out.reads HM.out ((((HD.out.drewN _).set_view m.f3).set_works true).set_last m.f3)) HCC.out HCL.out).mono ?_;rintro e w4 ⟨v4,rfl,hR4,hb4⟩;obtain ⟨A4,c4,rfl⟩:=Kd.R_slice hR4;have HD4:=sd (((((HD.out.drewN _).set_view m.f3).set_works true).set_last m.f3).set_log hb4 (Nat.le_refl _) hR4);obtain ⟨D6,d6,D7,d7,D8,d8,D9,d9,hbk,-⟩:=(((((HD.out.drewN _).set_view m.f3).set_works true).set_last m.f3).below hb4).blk;have hs6:w4.cell? ⟨g,6,none⟩=some _:=blk_cell hbk 6;have ht6:w4.frozen? ⟨g,6,none⟩=false:=blk_frozen hbk 6;clear hbk hb4 hR4) | (go_at_call 52;refine (clear_did { x with view:=m.f3,works:=true,last:=m.f3,log:=m.f7 } _ _ base g _ (by have:=HN0.out;show 0≤x.n;omega) HN1.out HD4.out).mono ?_;rintro e w6 ⟨rfl,h6⟩;rw [← HE.out] at h6;have HD6:=sd h6;have HBX6:=sd h6.box;obtain ⟨D6,d6,D7,d7,D8,d8,D9,d9,hbk,-⟩:=h6.blk;have HBK6:=sd hbk;have hr5:w6.cell? ⟨g,5,none⟩=some (.int .i64 y.commit):=blk_cell hbk 5;have hr6:w6.cell? ⟨g,6,none⟩=some (.slice D6 y.log.length d6):=blk_cell hbk 6;have hq5:w6.frozen? ⟨g,5,none⟩=false:=blk_frozen hbk 5;have hx5:w6.cell? ⟨w.heap.size,5,none⟩=some (.int .i64 m.f5):=blk_cell HBX6.out 5;clear h6 hbk))
 go_region
 go_wp2
 have HD7:=sd (show Did _ ((w6.setCell ⟨g,5,none⟩ (.int .i64 (min (max y.commit m.f5) (y.log.length:Int)))).drew) base g _ (y.settle m) from (HD6.out.set_commit (min (max y.commit m.f5) (y.log.length:Int))).drew)
 clear hc1 hc2 hc3 hc4 hc5 hc6 hf2 hf3 hf4 hf5 hf6 hb1 hb3 hb5 hb7
 clear hr5 hr6 hq5 hx5
 generalize hW7:(w6.setCell ⟨g,5,none⟩ (.int .i64 (min (max y.commit m.f5) (y.log.length:Int)))).drew=W7 at *
 clear hW7
 have HBX7:=sd HD7.out.box
 obtain ⟨E6,f6,E7,f7,E8,f8,E9,f9,hbk,-⟩:=HD7.out.blk
 have HBK7:=sd hbk
 have hs0:W7.cell? ⟨g,0,none⟩=some (.int .i64 (y.settle m).id):=blk_cell hbk 0
 have hs2:W7.cell? ⟨g,2,none⟩=some (.int .i64 (y.settle m).view):=blk_cell hbk 2
 have hs6:W7.cell? ⟨g,6,none⟩=some (.slice E6 (y.settle m).log.length f6):=blk_cell hbk 6
 have hs9:W7.cell? ⟨g,9,none⟩=some (.slice E9 (y.settle m).told.length f9):=blk_cell hbk 9
 have hx1:W7.cell? ⟨w.heap.size,1,none⟩=some (.int .i64 m.f1):=blk_cell HBX7.out 1
 have HC9:=sd (show W7.drew.cell? ⟨g,9,none⟩=_ from hs9)
 have HTI:=sd (show (y.settle m).told.length≤100000 from HTY.out)
 have HBKD:=sd (show W7.drew.heap[g]?=some _ from hbk)
 have HBXD:=sd (show W7.drew.heap[w.heap.size]?=some _ from HBX7.out)
 have HNE:=sd hne1
 clear hbk
 generalize hz:y.settle m=z at *
 rw [ldTold_eq 103]
 go_region_held3 (fun W=>W.cell? ⟨g,0,none⟩=some (.int .i64 z.id)∧W.cell? ⟨g,2,none⟩=some (.int .i64 z.view)∧W.cell? ⟨g,6,none⟩=some (.slice E6 z.log.length f6)∧W.cell? ⟨w.heap.size,1,none⟩=some (.int .i64 m.f1))
  (first | exact ⟨hs0,hs2,hs6,hx1⟩ | exact ⟨blk_cell HBK8.out 0,blk_cell HBK8.out 2,blk_cell HBK8.out 6,blk_cell HBX8.out 1⟩ | exact ⟨blk_cell (blk_alloc HBK8.out _) 0,blk_cell (blk_alloc HBK8.out _) 2,blk_cell (blk_alloc HBK8.out _) 6,blk_cell (blk_alloc HBX8.out _) 1⟩ | exact ⟨blk_cell HBK4.out 0,blk_cell HBK4.out 2,blk_cell HBK4.out 6,blk_cell HBX4.out 1⟩ | exact ⟨blk_cell HBK5.out 0,blk_cell HBK5.out 2,blk_cell HBK5.out 6,blk_cell HBX5.out 1⟩)
  (first | (refine x_step_call rfl Tryz.func79 (by kernel_rfl) rfl #[.int .i64 z.id,.int .i64 m.f1,.int .i64 z.view,.int .i64 (z.log.length:Int)] rfl (by simp [Act.eval,Act.put]) ?_;refine (ack_calls z.id m.f1 z.view (z.log.length:Int) W7.drew).mono ?_;rintro e w8 ⟨rfl,hb8⟩;have HB8:=sd hb8;have HBK8:=sd ((hb8.block g (blk_lt HBKD.out)).trans HBKD.out);have HBX8:=sd ((hb8.block w.heap.size (blk_lt HBXD.out)).trans HBXD.out);have hs9':∀ o,(w8.alloc o).cell? ⟨g,9,none⟩=some (.slice E9 z.told.length f9):=fun o=>blk_cell (blk_alloc HBK8.out o) 9;have hs9'':w8.cell? ⟨g,9,none⟩=some (.slice E9 z.told.length f9):=blk_cell HBK8.out 9;clear hb8;refine ⟨_,rfl,?_⟩) | (refine say_step (z.ackOf m) E9 f9 none 0 (HD7.out.drew) HB8.out (HC9.out) (Kd.R_nil _ _ _ _ _) HTI.out rfl (.tmp 104) (.tmp 124) rfl rfl rfl ?_;intro v1 w9 hd9 hg9 hv9;obtain ⟨A1,c1,rfl⟩:=hv9;have HD9:=sd hd9;have HBK4:=sd (hg9.trans HBKD.out);have HBX4:=sd ((blk_far_inv (p:=⟨g,9,none⟩) hd9.box HNE.out.symm));have HBX5:=sd hd9.box;have HBK5:=sd (blk_put (cs':=z.cells (.slice E6 z.log.length f6) (.slice E7 z.acks.length f7) (.slice E8 z.votes.length f8) (.slice A1 (z.say (z.ackOf m)).told.length c1)) HBK4.out 9 (.slice A1 (z.say (z.ackOf m)).told.length c1) rfl);have hr9:w9.cell? ⟨g,9,none⟩=some (.slice E9 z.told.length f9):=blk_cell HBK4.out 9;have hf9:w9.frozen? ⟨g,9,none⟩=false:=blk_frozen HBK4.out 9;clear hd9 hg9))
 all_goals
  go_wp2
  go_end0
  exact ⟨rfl,by rw [HZ.out];exact HN.out.unbox HD9.out⟩
end Go.Proofs.YtfpfpckocemmdaaGreat.P
