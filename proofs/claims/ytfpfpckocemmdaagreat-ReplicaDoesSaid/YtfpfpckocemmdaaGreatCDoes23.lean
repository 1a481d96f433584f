/- Part 23 of the walk. -/
import Derived.Test.YtfpfpckocemmdaaGreatCDoes20
import Derived.Test.YtfpfpckocemmdaaGreatCDoes21
import Derived.Test.YtfpfpckocemmdaaGreatCDoes22
set_option linter.unusedVariables false
set_option linter.unusedSimpArgs false
set_option maxHeartbeats 8000000
set_option maxRecDepth 100000
namespace Go.Proofs.YtfpfpckocemmdaaGreat.P
open Go.RowKit Go.Proofs.YtfpfpckocemmdaaGreatW.PrintWords Go.Proofs.YtfpfpckocemmdaaGreatW.PrintLast Go.Proofs.YtfpfpckocemmdaaGreatW.PrintMore
theorem vote_waits (x:Nod) (m:S28) (A:Option Addr) (c:Nat) (w0 w:World) (base g:Nat) (ok:Nat→Prop) (hg:Good x) (hk:m.f0=3) (hf:0≤m.f1) (hf2:m.f1 < x.n) (hmv:0≤m.f3) (hvl:x.votes.length≤900) (hc:m.f7.length≤c) (hl:m.f7.length≤1000) (hM:∀ W,Below base w0 W→Kd.C Kd.string W A m.f7.length m.f7) (hp:x.prim m.f3=true) (hv:¬ m.f3 > x.view) (hw:x.works=false) (h:Did w0 w base g ok x) :
  Calls Tryz.prog 47 #[.pointer (some ⟨g,0,none⟩),.agg #[m.f0,m.f1,m.f2,m.f3,m.f4,m.f5,m.f6,.slice A m.f7.length c]] w fun e w'=>e=.returned (.tuple #[])∧Did w0 w' base g ok (x.votedFor m):=by
 have hu56:=Tryz.underlying56
 have hu26:=Tryz.underlying26
 have hu28:=Tryz.underlying28
 have hu63:=Tryz.underlying63
 have HN:=sd h
 have HG:=sd hg
 have HD:=sd (h.boxed (.cells #[m.f0,m.f1,m.f2,m.f3,m.f4,m.f5,m.f6,.slice A m.f7.length c] 28))
 have HM:=sd hM
 have HCC:=sd hc
 have HL:=sd hl
 have HK:=sd hk
 have HF:=sd (And.intro hf hf2)
 have HMV:=sd hmv
 have HVL:=sd hvl
 have hlt:=h.1.lt
 obtain ⟨A6,c6,A7,c7,A8,c8,A9,c9,hb,-⟩:=HD.out.blk
 have HB:=sd hb
 have hc2:(w.alloc (.cells #[m.f0,m.f1,m.f2,m.f3,m.f4,m.f5,m.f6,.slice A m.f7.length c] 28)).cell? ⟨g,2,none⟩=some (.int .i64 x.view):=blk_cell hb 2
 have hc4:(w.alloc (.cells #[m.f0,m.f1,m.f2,m.f3,m.f4,m.f5,m.f6,.slice A m.f7.length c] 28)).cell? ⟨g,4,none⟩=some (.bool x.works):=blk_cell hb 4
 have hb3:(w.alloc (.cells #[m.f0,m.f1,m.f2,m.f3,m.f4,m.f5,m.f6,.slice A m.f7.length c] 28)).cell? ⟨w.heap.size,3,none⟩=some (.int .i64 m.f3):=blk_cell (x_alloc_new w _) 3
 have hne1:g≠w.heap.size:=by have:g < w.heap.size:=hlt;omega
 have hne2:w.heap.size≠g:=hne1.symm
 have HP:=sd (primary_calls x m.f3 (w.alloc (.cells #[m.f0,m.f1,m.f2,m.f3,m.f4,m.f5,m.f6,.slice A m.f7.length c] 28)) g (blk_cell hb 0) (blk_cell hb 1) hmv hg.n1)
 rw [hp] at HP
 rw [hw] at hc4
 have g1:decide (m.f3 > x.view)=false:=decide_eq_false hv
 have g2:decide (x.view < m.f3)=false:=decide_eq_false hv
 clear hp hv hw
 clear hb h hlt hg hk hf hf2 hmv hvl hc hl hM
 go_enter Tryz.func47,Tryz.ntmps47
 go_wp2_with ((go_at_call 68;refine HP.out.mono ?_;rintro e w' ⟨rfl,⟨nd,rfl⟩⟩))
 go_region
 go_wp2_with (fail)
 have HD6:=sd (HD.out.drewN (nd+1))
 clear hc2 hc4 hb3
 generalize hW6:(w.alloc (.cells #[m.f0,m.f1,m.f2,m.f3,m.f4,m.f5,m.f6,.slice A m.f7.length c] 28)).drewN (nd+1)=w6 at *
 clear hW6
 obtain ⟨y,hy⟩:∃ y,y=x:=⟨_,rfl⟩
 have HGY:=sd (show Good y by rw [hy];exact HG.out)
 have HYL:=sd (show y.votes.length≤900 by rw [hy];exact HVL.out)
 rw [← hy] at HD6
 have HZ:=sd (show ∀ {W:World},Did w0 W base g ok (y.votedFor m)→Did w0 W base g ok (x.votedFor m) by rw [hy];exact fun h=>h)
 clear hy
 have HBX6:=sd HD6.out.box
 obtain ⟨E6,f6,E7,f7,E8,f8,E9,f9,hbk,he6,hC6,he7,hC7,he8,hC8,-⟩:=HD6.out.blk
 have HBK6:=sd hbk
 have HC8:=sd hC8
 have HE8:=sd he8
 have HADD:=sd (add_of y.votes (voteOf m) HGY.out.votes HL.out (fun v hv=>(HGY.out.each v hv).2.2))
 have HGZ:=sd (add_good HGY.out (voteOf m) HYL.out ⟨HF.out.1,by have h1:=HF.out.2;have h2:=HG.out.n2;show m.f1≤1000;omega,HL.out⟩)
 clear hbk he6 hC6 he7 hC7 he8 hC8
 have hx0:w6.cell? ⟨w.heap.size,0,none⟩=some (.int .i64 m.f0):=blk_cell HBX6.out 0
 have hx1:w6.cell? ⟨w.heap.size,1,none⟩=some (.int .i64 m.f1):=blk_cell HBX6.out 1
 have hx2:w6.cell? ⟨w.heap.size,2,none⟩=some (.int .i64 m.f2):=blk_cell HBX6.out 2
 have hx3:w6.cell? ⟨w.heap.size,3,none⟩=some (.int .i64 m.f3):=blk_cell HBX6.out 3
 have hx4:w6.cell? ⟨w.heap.size,4,none⟩=some (.int .i64 m.f4):=blk_cell HBX6.out 4
 have hx5:w6.cell? ⟨w.heap.size,5,none⟩=some (.int .i64 m.f5):=blk_cell HBX6.out 5
 have hx6:w6.cell? ⟨w.heap.size,6,none⟩=some (.int .i64 m.f6):=blk_cell HBX6.out 6
 have hx7:w6.cell? ⟨w.heap.size,7,none⟩=some (.slice A m.f7.length c):=blk_cell HBX6.out 7
 go_wp2_with ((go_at_call 80;refine (vote_calls m A c _ HK.out HCC.out (HN.out.reads HM.out HD6.out) (by have:=HL.out;omega)).mono ?_;rintro e w7 ⟨v7,rfl,hR7,hb7⟩;obtain ⟨A7,c7',rfl⟩:=Kd.R_slice hR7;have HR7:=sd hR7;have HB7:=sd hb7;clear hR7 hb7))
 have HD8:=sd ((HD6.out.below HB7.out).alloc (.cells #[m.f1,m.f4,m.f5,.slice A7 m.f7.length c7'] 63))
 have HBV8:=sd (x_alloc_new w7 (.cells #[m.f1,m.f4,m.f5,.slice A7 m.f7.length c7'] 63))
 have HRR:=Kd.R_reads' HR7.out
 have HCV:=sd (Kd.C_alloc HRR.2.2 (.cells #[m.f1,m.f4,m.f5,.slice A7 m.f7.length c7'] 63))
 have HEV:=sd HRR.2.1
 have HC88:=sd (Kd.C_alloc (Kd.C_below HC8.out HB7.out) (.cells #[m.f1,m.f4,m.f5,.slice A7 m.f7.length c7'] 63))
 have HBK8:=sd (blk_alloc ((HB7.out.block g (blk_lt HBK6.out)).trans HBK6.out) (.cells #[m.f1,m.f4,m.f5,.slice A7 m.f7.length c7'] 63))
 have hnv1:g≠w7.heap.size:=by have h1:=blk_lt HBK6.out;have h2:=HB7.out.size;omega
 have HNV:=sd hnv1
 have hnv2:=hnv1.symm
 clear HRR hx0 hx1 hx2 hx3 hx4 hx5 hx6 hx7
 generalize hW8:w7.alloc (.cells #[m.f1,m.f4,m.f5,.slice A7 m.f7.length c7'] 63)=w8 at *
 generalize hgv:w7.heap.size=gv at *
 clear hW8
 have hy0:w8.cell? ⟨gv,0,none⟩=some (.int .i64 m.f1):=blk_cell HBV8.out 0
 have hy1:w8.cell? ⟨gv,1,none⟩=some (.int .i64 m.f4):=blk_cell HBV8.out 1
 have hy2:w8.cell? ⟨gv,2,none⟩=some (.int .i64 m.f5):=blk_cell HBV8.out 2
 have hy3:w8.cell? ⟨gv,3,none⟩=some (.slice A7 m.f7.length c7'):=blk_cell HBV8.out 3
 have hs8:w8.cell? ⟨g,8,none⟩=some (.slice E8 y.votes.length f8):=blk_cell HBK8.out 8
 rw [ldVotes_eq 69]
 go_region_held3 (fun W=>W.cell? ⟨gv,0,none⟩=some (.int .i64 m.f1)∧W.cell? ⟨gv,1,none⟩=some (.int .i64 m.f4)∧W.cell? ⟨gv,2,none⟩=some (.int .i64 m.f5)∧W.cell? ⟨gv,3,none⟩=some (.slice A7 m.f7.length c7'))
  (first | exact ⟨hy0,hy1,hy2,hy3⟩ | exact ⟨blk_cell HBV9.out 0,blk_cell HBV9.out 1,blk_cell HBV9.out 2,blk_cell HBV9.out 3⟩ | exact ⟨blk_cell HBVZ.out 0,blk_cell HBVZ.out 1,blk_cell HBVZ.out 2,blk_cell HBVZ.out 3⟩)
  ((refine x_step_call rfl Tryz.func53 (by kernel_rfl) rfl #[.slice E8 y.votes.length f8,.agg #[m.f1,m.f4,m.f5,.slice A7 m.f7.length c7']] rfl (by simp [Act.eval,Act.put]) ?_;refine (quorum_Add.calls (y.votes.length+1) E8 f8 y.votes m.f1 m.f4 m.f5 A7 c7' m.f7 _ w8.drew (Kd.C_drew HC88.out) HE8.out (Kd.C_drew HCV.out) HEV.out HADD.out).mono ?_;rintro e w9 ⟨v9,rfl,hS9,hb9⟩;obtain ⟨A9',c9',rfl⟩:=Kd.S_slice hS9;have HD9:=sd (HD8.out.drew.set_votes hb9 (Nat.le_refl _) hS9);have HBV9:=sd ((hb9.block gv (blk_lt HBV8.out)).trans HBV8.out);have HBK9:=sd ((hb9.block g (blk_lt HBK8.out)).trans HBK8.out);have HBVZ:=sd (blk_far (p:=⟨g,8,none⟩) HBV9.out HNV.out.symm (.slice A9' (addTo y.votes (voteOf m)).length c9'));have hr8:w9.cell? ⟨g,8,none⟩=some (.slice E8 y.votes.length f8):=blk_cell HBK9.out 8;have hf8:w9.frozen? ⟨g,8,none⟩=false:=blk_frozen HBK9.out 8;clear hS9 hb9;refine ⟨_,rfl,?_⟩))
 all_goals
  go_wp2_with ((go_at_call 35;refine (begin_did2 { y with votes:=addTo y.votes (voteOf m) } _ _ base g (Okb w0 w ok) HGZ.out HD9.out).mono ?_;rintro e w10 ⟨rfl,h10⟩;have HD10:=sd h10;clear h10))
  go_end0
  exact ⟨rfl,HZ.out (HN.out.unbox HD10.out)⟩
theorem vote_joins (x:Nod) (m:S28) (A:Option Addr) (c:Nat) (w0 w:World) (base g:Nat) (ok:Nat→Prop) (hg:Good x) (hk:m.f0=3) (hf:0≤m.f1) (hf2:m.f1 < x.n) (hmv:0≤m.f3) (hvl:x.votes.length≤900) (hc:m.f7.length≤c) (hl:m.f7.length≤1000) (hM:∀ W,Below base w0 W→Kd.C Kd.string W A m.f7.length m.f7) (hp:x.prim m.f3=true) (hv:m.f3 > x.view) (h:Did w0 w base g ok x) :
  Calls Tryz.prog 47 #[.pointer (some ⟨g,0,none⟩),.agg #[m.f0,m.f1,m.f2,m.f3,m.f4,m.f5,m.f6,.slice A m.f7.length c]] w fun e w'=>e=.returned (.tuple #[])∧Did w0 w' base g ok ((x.joins m.f3).votedFor m):=by
 have hu56:=Tryz.underlying56
 have hu26:=Tryz.underlying26
 have hu28:=Tryz.underlying28
 have hu63:=Tryz.underlying63
 have HN:=sd h
 have HG:=sd hg
 have HD:=sd (h.boxed (.cells #[m.f0,m.f1,m.f2,m.f3,m.f4,m.f5,m.f6,.slice A m.f7.length c] 28))
 have HM:=sd hM
 have HCC:=sd hc
 have HL:=sd hl
 have HK:=sd hk
 have HF:=sd (And.intro hf hf2)
 have HMV:=sd hmv
 have HVL:=sd hvl
 have hlt:=h.1.lt
 obtain ⟨A6,c6,A7,c7,A8,c8,A9,c9,hb,-⟩:=HD.out.blk
 have HB:=sd hb
 have hc2:(w.alloc (.cells #[m.f0,m.f1,m.f2,m.f3,m.f4,m.f5,m.f6,.slice A m.f7.length c] 28)).cell? ⟨g,2,none⟩=some (.int .i64 x.view):=blk_cell hb 2
 have hc4:(w.alloc (.cells #[m.f0,m.f1,m.f2,m.f3,m.f4,m.f5,m.f6,.slice A m.f7.length c] 28)).cell? ⟨g,4,none⟩=some (.bool x.works):=blk_cell hb 4
 have hb3:(w.alloc (.cells #[m.f0,m.f1,m.f2,m.f3,m.f4,m.f5,m.f6,.slice A m.f7.length c] 28)).cell? ⟨w.heap.size,3,none⟩=some (.int .i64 m.f3):=blk_cell (x_alloc_new w _) 3
 have hne1:g≠w.heap.size:=by have:g < w.heap.size:=hlt;omega
 have hne2:w.heap.size≠g:=hne1.symm
 have HP:=sd (primary_calls x m.f3 (w.alloc (.cells #[m.f0,m.f1,m.f2,m.f3,m.f4,m.f5,m.f6,.slice A m.f7.length c] 28)) g (blk_cell hb 0) (blk_cell hb 1) hmv hg.n1)
 rw [hp] at HP
 have g1:decide (m.f3 > x.view)=true:=decide_eq_true hv
 have g2:decide (x.view < m.f3)=true:=decide_eq_true hv
 clear hp hv
 clear hb h hlt hg hk hf hf2 hmv hvl hc hl hM
 go_enter Tryz.func47,Tryz.ntmps47
 go_wp2_with ((go_at_call 68;refine HP.out.mono ?_;rintro e w' ⟨rfl,⟨nd,rfl⟩⟩))
 go_region
 go_wp2_with ((go_at_call 34;refine (joins_did x m.f3 (w.alloc (.cells #[m.f0,m.f1,m.f2,m.f3,m.f4,m.f5,m.f6,.slice A m.f7.length c] 28)) _ base g (Okb w0 w ok) HG.out (HD.out.drewN _)).mono ?_;rintro e w6 ⟨rfl,h6⟩;have HD6:=sd h6;obtain ⟨D6,d6,D7,d7,D8,d8,D9,d9,hbj,-⟩:=h6.blk;have hj4:w6.cell? ⟨g,4,none⟩=some (.bool false):=blk_cell hbj 4;have hi0:w6.cell? ⟨w.heap.size,0,none⟩=some (.int .i64 m.f0):=blk_cell h6.box 0;have hi1:w6.cell? ⟨w.heap.size,1,none⟩=some (.int .i64 m.f1):=blk_cell h6.box 1;have hi2:w6.cell? ⟨w.heap.size,2,none⟩=some (.int .i64 m.f2):=blk_cell h6.box 2;have hi3:w6.cell? ⟨w.heap.size,3,none⟩=some (.int .i64 m.f3):=blk_cell h6.box 3;have hi4:w6.cell? ⟨w.heap.size,4,none⟩=some (.int .i64 m.f4):=blk_cell h6.box 4;have hi5:w6.cell? ⟨w.heap.size,5,none⟩=some (.int .i64 m.f5):=blk_cell h6.box 5;have hi6:w6.cell? ⟨w.heap.size,6,none⟩=some (.int .i64 m.f6):=blk_cell h6.box 6;have hi7:w6.cell? ⟨w.heap.size,7,none⟩=some (.slice A m.f7.length c):=blk_cell h6.box 7;clear h6 hbj))
 clear hc2 hc4 hb3 hj4 hi0 hi1 hi2 hi3 hi4 hi5 hi6 hi7
 obtain ⟨y,hy⟩:∃ y,y=x.joins m.f3:=⟨_,rfl⟩
 have HGY:=sd (show Good y by rw [hy];exact joins_good HG.out _ HMV.out)
 have HYL:=sd (show y.votes.length≤900 by rw [hy];simp [Nod.joins,Nod.join])
 rw [← hy] at HD6
 have HZ:=sd (show ∀ {W:World},Did w0 W base g ok (y.votedFor m)→Did w0 W base g ok ((x.joins m.f3).votedFor m) by rw [hy];exact fun h=>h)
 clear hy
 have HBX6:=sd HD6.out.box
 obtain ⟨E6,f6,E7,f7,E8,f8,E9,f9,hbk,he6,hC6,he7,hC7,he8,hC8,-⟩:=HD6.out.blk
 have HBK6:=sd hbk
 have HC8:=sd hC8
 have HE8:=sd he8
 have HADD:=sd (add_of y.votes (voteOf m) HGY.out.votes HL.out (fun v hv=>(HGY.out.each v hv).2.2))
 have HGZ:=sd (add_good HGY.out (voteOf m) HYL.out ⟨HF.out.1,by have h1:=HF.out.2;have h2:=HG.out.n2;show m.f1≤1000;omega,HL.out⟩)
 clear hbk he6 hC6 he7 hC7 he8 hC8
 have hx0:w6.cell? ⟨w.heap.size,0,none⟩=some (.int .i64 m.f0):=blk_cell HBX6.out 0
 have hx1:w6.cell? ⟨w.heap.size,1,none⟩=some (.int .i64 m.f1):=blk_cell HBX6.out 1
 have hx2:w6.cell? ⟨w.heap.size,2,none⟩=some (.int .i64 m.f2):=blk_cell HBX6.out 2
 have hx3:w6.cell? ⟨w.heap.size,3,none⟩=some (.int .i64 m.f3):=blk_cell HBX6.out 3
 have hx4:w6.cell? ⟨w.heap.size,4,none⟩=some (.int .i64 m.f4):=blk_cell HBX6.out 4
 have hx5:w6.cell? ⟨w.heap.size,5,none⟩=some (.int .i64 m.f5):=blk_cell HBX6.out 5
 have hx6:w6.cell? ⟨w.heap.size,6,none⟩=some (.int .i64 m.f6):=blk_cell HBX6.out 6
 have hx7:w6.cell? ⟨w.heap.size,7,none⟩=some (.slice A m.f7.length c):=blk_cell HBX6.out 7
 go_wp2_with ((go_at_call 80;refine (vote_calls m A c _ HK.out HCC.out (HN.out.reads HM.out HD6.out) (by have:=HL.out;omega)).mono ?_;rintro e w7 ⟨v7,rfl,hR7,hb7⟩;obtain ⟨A7,c7',rfl⟩:=Kd.R_slice hR7;have HR7:=sd hR7;have HB7:=sd hb7;clear hR7 hb7))
 have HD8:=sd ((HD6.out.below HB7.out).alloc (.cells #[m.f1,m.f4,m.f5,.slice A7 m.f7.length c7'] 63))
 have HBV8:=sd (x_alloc_new w7 (.cells #[m.f1,m.f4,m.f5,.slice A7 m.f7.length c7'] 63))
 have HRR:=Kd.R_reads' HR7.out
 have HCV:=sd (Kd.C_alloc HRR.2.2 (.cells #[m.f1,m.f4,m.f5,.slice A7 m.f7.length c7'] 63))
 have HEV:=sd HRR.2.1
 have HC88:=sd (Kd.C_alloc (Kd.C_below HC8.out HB7.out) (.cells #[m.f1,m.f4,m.f5,.slice A7 m.f7.length c7'] 63))
 have HBK8:=sd (blk_alloc ((HB7.out.block g (blk_lt HBK6.out)).trans HBK6.out) (.cells #[m.f1,m.f4,m.f5,.slice A7 m.f7.length c7'] 63))
 have hnv1:g≠w7.heap.size:=by have h1:=blk_lt HBK6.out;have h2:=HB7.out.size;omega
 have HNV:=sd hnv1
 have hnv2:=hnv1.symm
 clear HRR hx0 hx1 hx2 hx3 hx4 hx5 hx6 hx7
 generalize hW8:w7.alloc (.cells #[m.f1,m.f4,m.f5,.slice A7 m.f7.length c7'] 63)=w8 at *
 generalize hgv:w7.heap.size=gv at *
 clear hW8
 have hy0:w8.cell? ⟨gv,0,none⟩=some (.int .i64 m.f1):=blk_cell HBV8.out 0
 have hy1:w8.cell? ⟨gv,1,none⟩=some (.int .i64 m.f4):=blk_cell HBV8.out 1
 have hy2:w8.cell? ⟨gv,2,none⟩=some (.int .i64 m.f5):=blk_cell HBV8.out 2
 have hy3:w8.cell? ⟨gv,3,none⟩=some (.slice A7 m.f7.length c7'):=blk_cell HBV8.out 3
 have hs8:w8.cell? ⟨g,8,none⟩=some (.slice E8 y.votes.length f8):=blk_cell HBK8.out 8
 rw [ldVotes_eq 69]
 go_region_held3 (fun W=>W.cell? ⟨gv,0,none⟩=some (.int .i64 m.f1)∧W.cell? ⟨gv,1,none⟩=some (.int .i64 m.f4)∧W.cell? ⟨gv,2,none⟩=some (.int .i64 m.f5)∧W.cell? ⟨gv,3,none⟩=some (.slice A7 m.f7.length c7'))
  (first | exact ⟨hy0,hy1,hy2,hy3⟩ | exact ⟨blk_cell HBV9.out 0,blk_cell HBV9.out 1,blk_cell HBV9.out 2,blk_cell HBV9.out 3⟩ | exact ⟨blk_cell HBVZ.out 0,blk_cell HBVZ.out 1,blk_cell HBVZ.out 2,blk_cell HBVZ.out 3⟩)
  ((refine x_step_call rfl Tryz.func53 (by kernel_rfl) rfl #[.slice E8 y.votes.length f8,.agg #[m.f1,m.f4,m.f5,.slice A7 m.f7.length c7']] rfl (by simp [Act.eval,Act.put]) ?_;refine (quorum_Add.calls (y.votes.length+1) E8 f8 y.votes m.f1 m.f4 m.f5 A7 c7' m.f7 _ w8.drew (Kd.C_drew HC88.out) HE8.out (Kd.C_drew HCV.out) HEV.out HADD.out).mono ?_;rintro e w9 ⟨v9,rfl,hS9,hb9⟩;obtain ⟨A9',c9',rfl⟩:=Kd.S_slice hS9;have HD9:=sd (HD8.out.drew.set_votes hb9 (Nat.le_refl _) hS9);have HBV9:=sd ((hb9.block gv (blk_lt HBV8.out)).trans HBV8.out);have HBK9:=sd ((hb9.block g (blk_lt HBK8.out)).trans HBK8.out);have HBVZ:=sd (blk_far (p:=⟨g,8,none⟩) HBV9.out HNV.out.symm (.slice A9' (addTo y.votes (voteOf m)).length c9'));have hr8:w9.cell? ⟨g,8,none⟩=some (.slice E8 y.votes.length f8):=blk_cell HBK9.out 8;have hf8:w9.frozen? ⟨g,8,none⟩=false:=blk_frozen HBK9.out 8;clear hS9 hb9;refine ⟨_,rfl,?_⟩))
 all_goals
  go_wp2_with ((go_at_call 35;refine (begin_did2 { y with votes:=addTo y.votes (voteOf m) } _ _ base g (Okb w0 w ok) HGZ.out HD9.out).mono ?_;rintro e w10 ⟨rfl,h10⟩;have HD10:=sd h10;clear h10))
  go_end0
  exact ⟨rfl,HZ.out (HN.out.unbox HD10.out)⟩
theorem prepare_did (x:Nod) (m:S28) (A:Option Addr) (c:Nat) (w0 w:World) (base g:Nat) (ok:Nat→Prop) (hg:Good x) (hv:0≤m.f3) (hc:m.f7.length≤c) (hl:m.f7.length≤1000) (hM:∀ W,Below base w0 W→Kd.C Kd.string W A m.f7.length m.f7) (h:Did w0 w base g ok x) :
  Calls Tryz.prog 45 #[.pointer (some ⟨g,0,none⟩),.agg #[.int .i64 m.f0,.int .i64 m.f1,.int .i64 m.f2,.int .i64 m.f3,.int .i64 m.f4,.int .i64 m.f5,.int .i64 m.f6,.slice A m.f7.length c]] w fun e w'=>e=.returned (.tuple #[])∧Did w0 w' base g ok (x.prepare m):=by
 by_cases hp:m.f3 % x.n=m.f1
 ·have he:x.prepare m=(let z:=(x.takes m).settle m;z.say (z.ackOf m)):=by unfold Nod.prepare;rw [if_pos hp]
  rw [he]
  by_cases hv2:m.f3 > x.view
  ·exact prepare_newer x m A c w0 w base g ok hg.n1 hg.n2 hv hp hg.told hc hl hg.log hM hv2 h
  ·cases hw:x.works with
   | false=>exact prepare_joins x m A c w0 w base g ok hg.n1 hg.n2 hv hp hg.told hc hl hg.log hM hw hv2 h
   | true =>
    by_cases hll:m.f7.length > x.log.length
    ·exact prepare_longer x m A c w0 w base g ok hg.n1 hg.n2 hv hp hg.told hc hl hg.log hM hw hv2 hll h
    ·exact prepare_same x m A c w0 w base g ok hg.n1 hg.n2 hv hp hg.told hc hl hg.log hM hw hv2 hll h
 ·have he:x.prepare m=x:=by unfold Nod.prepare;rw [if_neg hp]
  rw [he]
  exact prepare_not x m A c w0 w base g ok hg.n1 hv hp h
theorem vote_did (x:Nod) (m:S28) (A:Option Addr) (c:Nat) (w0 w:World) (base g:Nat) (ok:Nat→Prop) (hg:Good x) (hk:m.f0=3) (hf:0≤m.f1) (hf2:m.f1 < x.n) (hmv:0≤m.f3) (hvl:x.votes.length≤900) (hc:m.f7.length≤c) (hl:m.f7.length≤1000) (hM:∀ W,Below base w0 W→Kd.C Kd.string W A m.f7.length m.f7) (h:Did w0 w base g ok x) :
  Calls Tryz.prog 47 #[.pointer (some ⟨g,0,none⟩),.agg #[.int .i64 m.f0,.int .i64 m.f1,.int .i64 m.f2,.int .i64 m.f3,.int .i64 m.f4,.int .i64 m.f5,.int .i64 m.f6,.slice A m.f7.length c]] w fun e w'=>e=.returned (.tuple #[])∧Did w0 w' base g ok (x.vote m):=by
 unfold Nod.vote
 cases hp:x.prim m.f3 with
 | false =>
  rw [if_neg (by simp)]
  exact vote_not x m A c w0 w base g ok hg hk hf hf2 hmv hvl hc hl hM hp h
 | true =>
  rw [if_pos rfl]
  by_cases hv:m.f3 > x.view
  ·rw [if_pos hv]
   exact vote_joins x m A c w0 w base g ok hg hk hf hf2 hmv hvl hc hl hM hp hv h
  ·rw [if_neg hv]
   cases hw:x.works with
   | true =>
    rw [if_pos rfl]
    exact vote_works x m A c w0 w base g ok hg hk hf hf2 hmv hvl hc hl hM hp hv hw h
   | false =>
    rw [if_neg (by simp)]
    exact vote_waits x m A c w0 w base g ok hg hk hf hf2 hmv hvl hc hl hM hp hv hw h
end Go.Proofs.YtfpfpckocemmdaaGreat.P
