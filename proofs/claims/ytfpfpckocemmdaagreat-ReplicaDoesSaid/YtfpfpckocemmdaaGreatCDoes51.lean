/- Part 51 of the walk. -/
import Derived.Test.YtfpfpckocemmdaaGreatCDoes49
import Derived.Test.YtfpfpckocemmdaaGreatCDoes50
set_option linter.unusedVariables false
set_option linter.unusedSimpArgs false
set_option maxHeartbeats 8000000
set_option maxRecDepth 100000
namespace Go.Proofs.YtfpfpckocemmdaaGreat.P
open Go.RowKit Go.Proofs.YtfpfpckocemmdaaGreatW.PrintWords Go.Proofs.YtfpfpckocemmdaaGreatW.PrintLast Go.Proofs.YtfpfpckocemmdaaGreatW.PrintMore
section
attribute [local go_sem] max2_mx min2_mn max_two min_two max_three min_three max_four min_four
theorem owns_low {w w':World} {N:Nat} {P6 P9:Nat→Prop} {v6 v9:Value} {l:List ByteArray} {tl:List S28} (hN:N≤w.heap.size) (h6:Kd.R Kd.string 9 w' w.heap.size P6 v6 l) (h9:Kd.S k28 28 w' w.heap.size P9 v9 tl) (hd:∀ k,P6 k→¬ P9 k) :
  ∃ PA PK:Nat→Prop,Stays w' (fun W=>Kd.R Kd.string 9 W N PA v6 l)∧Stays w' (fun W=>Kd.S k28 28 W N PK v9 tl)∧(∀ k,PA k→¬ PK k)∧∀ k,PA k∨PK k→w.heap.size≤k∧k < w'.heap.size :=
 ⟨fun k=>P6 k∧w.heap.size≤k∧k < w'.heap.size,fun k=>P9 k∧w.heap.size≤k∧k < w'.heap.size,Stays.row (Kd.R_mono (Kd.R_lower (Kd.R_bound h6) hN) (fun k hk=>⟨hk.1,hk.2.1,hk.2.2.1⟩)),Stays.rows (Kd.S_mono (Kd.S_lower (Kd.S_bound h9) hN) (fun k hk=>⟨hk.1,hk.2.1,hk.2.2.1⟩)),fun k h1 h2=>hd k h1.1 h2.1,fun k hk=>hk.elim (fun h=>h.2) (fun h=>h.2)⟩
theorem does_far (x:Nod) (m:S28) (s:ByteArray) (id n:Int) (A6 A7 A8 A:Option Addr) (c6 c7 c8 c:Nat) (w:World) (h6:Kd.C Kd.string w A6 x.log.length x.log) (l6:x.log.length≤c6) (h7:Kd.C (Kd.int .i64) w A7 x.acks.length x.acks) (l7:x.acks.length≤c7) (h8:Kd.C k63 w A8 x.votes.length x.votes) (l8:x.votes.length≤c8) (hm:Kd.C Kd.string w A m.f7.length m.f7) (lm:m.f7.length≤c) (K:Nat) (hfar:sextonlaw24_far.f K x.id x.n x.view x.last x.works x.commit x.log x.acks x.votes m.f0 m.f1 m.f2 m.f3 m.f4 m.f5 m.f6 m.f7 s=some true) :
  Calls Tryz.prog 3 #[.agg #[.int .i64 x.id,.int .i64 x.n,.int .i64 x.view,.int .i64 x.last,.bool x.works,.int .i64 x.commit,.slice A6 x.log.length c6,.slice A7 x.acks.length c7,.slice A8 x.votes.length c8],.agg #[.int .i64 m.f0,.int .i64 m.f1,.int .i64 m.f2,.int .i64 m.f3,.int .i64 m.f4,.int .i64 m.f5,.int .i64 m.f6,.slice A m.f7.length c],.string s,.int .i64 id,.int .i64 n] w fun e w'=>e=.returned (.bool true)∧Below w.heap.size w w':=by
 have hu26:=Tryz.underlying26
 have hu28:=Tryz.underlying28
 have hu22:=Tryz.underlying22
 have hu31:=Tryz.underlying31
 have HF:=Aside0.mk (fun (W:World) (hb:Below w.heap.size w W)=>far_stays (w:=W) hfar (Kd.C_below h6 hb) l6 (Kd.C_below h7 hb) l7 (Kd.C_below h8 hb) l8 (Kd.C_below hm hb) lm)
 clear hfar h6 l6 h7 l7 h8 l8 hm lm
 go_enter Tryz.func3,Tryz.ntmps3
 have HB:=Aside0.mk (below_alloc (below_alloc (Below.refl w.heap.size w) (.cells #[.int .i64 x.id,.int .i64 x.n,.int .i64 x.view,.int .i64 x.last,.bool x.works,.int .i64 x.commit,.slice A6 x.log.length c6,.slice A7 x.acks.length c7,.slice A8 x.votes.length c8] 26)) (.cells #[.int .i64 m.f0,.int .i64 m.f1,.int .i64 m.f2,.int .i64 m.f3,.int .i64 m.f4,.int .i64 m.f5,.int .i64 m.f6,.slice A m.f7.length c] 28))
 have SX:=Aside0.mk (Stays.blk (blk_alloc (x_alloc_new w (.cells #[.int .i64 x.id,.int .i64 x.n,.int .i64 x.view,.int .i64 x.last,.bool x.works,.int .i64 x.commit,.slice A6 x.log.length c6,.slice A7 x.acks.length c7,.slice A8 x.votes.length c8] 26)) (.cells #[.int .i64 m.f0,.int .i64 m.f1,.int .i64 m.f2,.int .i64 m.f3,.int .i64 m.f4,.int .i64 m.f5,.int .i64 m.f6,.slice A m.f7.length c] 28)))
 have SM:=Aside0.mk (Stays.blk (alloc2_new w (.cells #[.int .i64 x.id,.int .i64 x.n,.int .i64 x.view,.int .i64 x.last,.bool x.works,.int .i64 x.commit,.slice A6 x.log.length c6,.slice A7 x.acks.length c7,.slice A8 x.votes.length c8] 26) (.cells #[.int .i64 m.f0,.int .i64 m.f1,.int .i64 m.f2,.int .i64 m.f3,.int .i64 m.f4,.int .i64 m.f5,.int .i64 m.f6,.slice A m.f7.length c] 28)))
 obtain ⟨p0,p1,p2,p3,p4,p5,p6,p7,p8⟩:=cells9 SX.out.here
 obtain ⟨q0,q1,q2,q3,q4,q5,q6,q7⟩:=cells8 SM.out.here
 go_wp2_with (fail)
 go_at_call 4
 refine (HF.out _ HB.out).mono ?_
 rintro e w1 ⟨rfl,hb⟩
 replace HB:=Aside0.mk (below_step HB.out hb)
 clear hb
 clear p0 p1 p2 p3 p4 p5 p6 p7 p8
 clear q0 q1 q2 q3 q4 q5 q6 q7
 go_wp2_with (fail)
 go_ret
 exact ⟨rfl,HB.out⟩
theorem does_walk (x:Nod) (m:S28) (s:ByteArray) (id n:Int) (A6 A7 A8 A:Option Addr) (c6 c7 c8 c:Nat) (w:World) (a k0 u y z:Nod) (e g i tt ab:Int) (harg:Arg w x A6 A7 A8 c6 c7 c8) (hm:Kd.C Kd.string w A m.f7.length m.f7) (lm:m.f7.length≤c) (K:Nat) (hK:3000≤K) (hfar:sextonlaw24_far.f K x.id x.n x.view x.last x.works x.commit x.log x.acks x.votes m.f0 m.f1 m.f2 m.f3 m.f4 m.f5 m.f6 m.f7 s=some false) (hx:Nice { x with told:=[] }) (hl:m.f7.length≤1000) (hask:askOf x s=(a,e)) (hto:timeoutOf x=(k0,g)) (hha:handleOf x m=(u,i)) (hre:restartOf x=(y,tt)) (hnew:newOf id n=(z,ab)) (na:Nice a) (nk:Nice k0) (nu:Nice u) (ny:Nice y) (nz:Nice z) :
  Calls Tryz.prog 3 #[.agg #[.int .i64 x.id,.int .i64 x.n,.int .i64 x.view,.int .i64 x.last,.bool x.works,.int .i64 x.commit,.slice A6 x.log.length c6,.slice A7 x.acks.length c7,.slice A8 x.votes.length c8],.agg #[.int .i64 m.f0,.int .i64 m.f1,.int .i64 m.f2,.int .i64 m.f3,.int .i64 m.f4,.int .i64 m.f5,.int .i64 m.f6,.slice A m.f7.length c],.string s,.int .i64 id,.int .i64 n] w fun e w'=>e=.returned (.bool true)∧Below w.heap.size w w':=by
 have hu26:=Tryz.underlying26
 have hu28:=Tryz.underlying28
 have hu22:=Tryz.underlying22
 have hu31:=Tryz.underlying31
 have HF:=Aside0.mk (fun (W:World) (h:Arg W x A6 A7 A8 c6 c7 c8) (hb:Kd.C Kd.string W A m.f7.length m.f7)=>far_stays (w:=W) hfar h.h6 h.l6 h.h7 h.l7 h.h8 h.l8 hb lm)
 have AX:=Aside0.mk (arg_holds harg)
 have CM:=Aside0.mk (text_holds hm)
 have FX:=Aside0.mk (show Few x from ⟨hx.few.log,hx.few.acks,hx.few.votes,hx.few.each⟩)
 have NX:=Aside0.mk hx
 have LM:=Aside0.mk lm
 have HK:=Aside0.mk hK
 have HL:=Aside0.mk hl
 have QA:=Aside0.mk hask
 have QT:=Aside0.mk hto
 have QH:=Aside0.mk hha
 have QR:=Aside0.mk hre
 have QN:=Aside0.mk hnew
 have NA:=Aside0.mk na
 have NK:=Aside0.mk nk
 have NU:=Aside0.mk nu
 have NY:=Aside0.mk ny
 have NZ:=Aside0.mk nz
 clear hfar harg hm lm hK hx hl hask hto hha hre hnew na nk nu ny nz
 go_enter Tryz.func3,Tryz.ntmps3
 have HB:=Aside0.mk (below_alloc (below_alloc (Below.refl w.heap.size w) (.cells #[.int .i64 x.id,.int .i64 x.n,.int .i64 x.view,.int .i64 x.last,.bool x.works,.int .i64 x.commit,.slice A6 x.log.length c6,.slice A7 x.acks.length c7,.slice A8 x.votes.length c8] 26)) (.cells #[.int .i64 m.f0,.int .i64 m.f1,.int .i64 m.f2,.int .i64 m.f3,.int .i64 m.f4,.int .i64 m.f5,.int .i64 m.f6,.slice A m.f7.length c] 28))
 have SX:=Aside0.mk (Stays.blk (blk_alloc (x_alloc_new w (.cells #[.int .i64 x.id,.int .i64 x.n,.int .i64 x.view,.int .i64 x.last,.bool x.works,.int .i64 x.commit,.slice A6 x.log.length c6,.slice A7 x.acks.length c7,.slice A8 x.votes.length c8] 26)) (.cells #[.int .i64 m.f0,.int .i64 m.f1,.int .i64 m.f2,.int .i64 m.f3,.int .i64 m.f4,.int .i64 m.f5,.int .i64 m.f6,.slice A m.f7.length c] 28)))
 have SM:=Aside0.mk (Stays.blk (alloc2_new w (.cells #[.int .i64 x.id,.int .i64 x.n,.int .i64 x.view,.int .i64 x.last,.bool x.works,.int .i64 x.commit,.slice A6 x.log.length c6,.slice A7 x.acks.length c7,.slice A8 x.votes.length c8] 26) (.cells #[.int .i64 m.f0,.int .i64 m.f1,.int .i64 m.f2,.int .i64 m.f3,.int .i64 m.f4,.int .i64 m.f5,.int .i64 m.f6,.slice A m.f7.length c] 28)))
 obtain ⟨p0,p1,p2,p3,p4,p5,p6,p7,p8⟩:=cells9 SX.out.here
 obtain ⟨q0,q1,q2,q3,q4,q5,q6,q7⟩:=cells8 SM.out.here
 replace AX:=Aside0.mk (AX.out.below HB.out)
 replace CM:=Aside0.mk (CM.out.below HB.out)
 go_wp2_with (fail)
 go_at_call 4
 refine (HF.out _ AX.out.here CM.out.here).mono ?_
 rintro e w1 ⟨rfl,hb⟩
 replace HB:=Aside0.mk (below_step HB.out hb)
 replace SX:=Aside0.mk (SX.out.below hb)
 replace SM:=Aside0.mk (SM.out.below hb)
 replace AX:=Aside0.mk (AX.out.below hb)
 replace CM:=Aside0.mk (CM.out.below hb)
 clear hb
 clear p0 p1 p2 p3 p4 p5 p6 p7 p8
 clear q0 q1 q2 q3 q4 q5 q6 q7
 obtain ⟨p0,p1,p2,p3,p4,p5,p6,p7,p8⟩:=cells9 SX.out.here
 go_wp2_with (fail)
 clear p0 p1 p2 p3 p4 p5 p6 p7 p8
 go_at_call 5
 refine (rown_stays FX.out AX.out.here).mono ?_
 rintro e w2 ⟨O6,o6,O7,o7,O8,o8,rfl,hS,hb⟩
 replace HB:=Aside0.mk (below_step HB.out hb)
 replace SX:=Aside0.mk (SX.out.below hb)
 replace SM:=Aside0.mk (SM.out.below hb)
 replace AX:=Aside0.mk (AX.out.below hb)
 replace CM:=Aside0.mk (CM.out.below hb)
 clear hb
 have AO:=Aside0.mk (hS.alloc (.cells #[.int .i64 x.id,.int .i64 x.n,.int .i64 x.view,.int .i64 x.last,.bool x.works,.int .i64 x.commit,.slice O6 x.log.length o6,.slice O7 x.acks.length o7,.slice O8 x.votes.length o8] 26))
 clear hS
 replace SX:=Aside0.mk (SX.out.alloc (.cells #[.int .i64 x.id,.int .i64 x.n,.int .i64 x.view,.int .i64 x.last,.bool x.works,.int .i64 x.commit,.slice O6 x.log.length o6,.slice O7 x.acks.length o7,.slice O8 x.votes.length o8] 26))
 replace SM:=Aside0.mk (SM.out.alloc (.cells #[.int .i64 x.id,.int .i64 x.n,.int .i64 x.view,.int .i64 x.last,.bool x.works,.int .i64 x.commit,.slice O6 x.log.length o6,.slice O7 x.acks.length o7,.slice O8 x.votes.length o8] 26))
 replace AX:=Aside0.mk (AX.out.alloc (.cells #[.int .i64 x.id,.int .i64 x.n,.int .i64 x.view,.int .i64 x.last,.bool x.works,.int .i64 x.commit,.slice O6 x.log.length o6,.slice O7 x.acks.length o7,.slice O8 x.votes.length o8] 26))
 replace CM:=Aside0.mk (CM.out.alloc (.cells #[.int .i64 x.id,.int .i64 x.n,.int .i64 x.view,.int .i64 x.last,.bool x.works,.int .i64 x.commit,.slice O6 x.log.length o6,.slice O7 x.acks.length o7,.slice O8 x.votes.length o8] 26))
 have SO:=Aside0.mk (Stays.new w2 (.cells #[.int .i64 x.id,.int .i64 x.n,.int .i64 x.view,.int .i64 x.last,.bool x.works,.int .i64 x.commit,.slice O6 x.log.length o6,.slice O7 x.acks.length o7,.slice O8 x.votes.length o8] 26))
 replace HB:=Aside0.mk (below_alloc HB.out (.cells #[.int .i64 x.id,.int .i64 x.n,.int .i64 x.view,.int .i64 x.last,.bool x.works,.int .i64 x.commit,.slice O6 x.log.length o6,.slice O7 x.acks.length o7,.slice O8 x.votes.length o8] 26))
 obtain ⟨p0,p1,p2,p3,p4,p5,p6,p7,p8⟩:=cells9 SX.out.here
 go_wp2_with (fail)
 clear p0 p1 p2 p3 p4 p5 p6 p7 p8
 generalize (w2.alloc (.cells #[.int .i64 x.id,.int .i64 x.n,.int .i64 x.view,.int .i64 x.last,.bool x.works,.int .i64 x.commit,.slice O6 x.log.length o6,.slice O7 x.acks.length o7,.slice O8 x.votes.length o8] 26))=V at AX CM SX SM AO SO HB ⊢
 generalize w2.heap.size=go at SO ⊢
 have HV:=Aside0.mk (Below.refl V.heap.size V)
 go_at_call 6
 refine (ask_owns QA.out NA.out.fits (AX.out.below HV.out).here).mono ?_
 rintro e_ wJ ⟨J6,j6_,J7,j7_,J8,j8_,J9,j9_,rfl,h9,hS,hb,P6,P9,g6,g9,hd⟩
 obtain ⟨PJ_,QJ_,hR,hT,hdis,hlt⟩:=owns_low HV.out.size g6 g9 hd
 clear g6 g9 hd
 replace HV:=Aside0.mk (below_step HV.out hb)
 have RJ:=Aside0.mk hS
 have LJ:=Aside0.mk h9
 have ZJ:=Aside0.mk (Nat.le_refl wJ.heap.size)
 have UJ:=Aside0.mk hR
 have TJ:=Aside0.mk hT
 have DJ:=Aside0.mk (And.intro hdis hlt)
 clear hR hT hdis hlt
 clear hS hb h9
 replace RJ:=Aside0.mk (RJ.out.alloc (.cells #[.int .i64 a.id,.int .i64 a.n,.int .i64 a.view,.int .i64 a.last,.bool a.works,.int .i64 a.commit,.slice J6 a.log.length j6_,.slice J7 a.acks.length j7_,.slice J8 a.votes.length j8_] 26))
 replace UJ:=Aside0.mk (UJ.out.alloc (.cells #[.int .i64 a.id,.int .i64 a.n,.int .i64 a.view,.int .i64 a.last,.bool a.works,.int .i64 a.commit,.slice J6 a.log.length j6_,.slice J7 a.acks.length j7_,.slice J8 a.votes.length j8_] 26))
 replace TJ:=Aside0.mk (TJ.out.alloc (.cells #[.int .i64 a.id,.int .i64 a.n,.int .i64 a.view,.int .i64 a.last,.bool a.works,.int .i64 a.commit,.slice J6 a.log.length j6_,.slice J7 a.acks.length j7_,.slice J8 a.votes.length j8_] 26))
 replace HV:=Aside0.mk (below_alloc HV.out (.cells #[.int .i64 a.id,.int .i64 a.n,.int .i64 a.view,.int .i64 a.last,.bool a.works,.int .i64 a.commit,.slice J6 a.log.length j6_,.slice J7 a.acks.length j7_,.slice J8 a.votes.length j8_] 26))
 replace ZJ:=Aside0.mk (Nat.le_trans ZJ.out (below_alloc (Below.refl wJ.heap.size wJ) (.cells #[.int .i64 a.id,.int .i64 a.n,.int .i64 a.view,.int .i64 a.last,.bool a.works,.int .i64 a.commit,.slice J6 a.log.length j6_,.slice J7 a.acks.length j7_,.slice J8 a.votes.length j8_] 26)).size)
 have SJ:=Aside0.mk (Stays.new wJ (.cells #[.int .i64 a.id,.int .i64 a.n,.int .i64 a.view,.int .i64 a.last,.bool a.works,.int .i64 a.commit,.slice J6 a.log.length j6_,.slice J7 a.acks.length j7_,.slice J8 a.votes.length j8_] 26))
 obtain ⟨p0,p1,p2,p3,p4,p5,p6,p7,p8⟩:=cells9 (SO.out.below HV.out).here
 go_wp2_with (fail)
 clear p0 p1 p2 p3 p4 p5 p6 p7 p8
 generalize (wJ.alloc (.cells #[.int .i64 a.id,.int .i64 a.n,.int .i64 a.view,.int .i64 a.last,.bool a.works,.int .i64 a.commit,.slice J6 a.log.length j6_,.slice J7 a.acks.length j7_,.slice J8 a.votes.length j8_] 26))=WJ at RJ UJ TJ SJ HV ZJ ⊢
 generalize wJ.heap.size=gJ at SJ ⊢
 go_at_call 7
 refine (rask_stays QA.out FX.out NA.out.fits (AO.out.below HV.out).here).mono ?_
 rintro e_ wB ⟨B6,b6_,B7,b7_,B8,b8_,B9,b9_,rfl,h9,hS,hb⟩
 replace RJ:=Aside0.mk (RJ.out.below hb)
 replace UJ:=Aside0.mk (UJ.out.below hb)
 replace TJ:=Aside0.mk (TJ.out.below hb)
 replace SJ:=Aside0.mk (SJ.out.below hb)
 replace HV:=Aside0.mk (below_step HV.out hb)
 replace ZJ:=Aside0.mk (Nat.le_trans ZJ.out hb.size)
 have RB:=Aside0.mk hS
 have LB:=Aside0.mk h9
 clear hS hb h9
 replace RJ:=Aside0.mk (RJ.out.alloc (.cells #[.int .i64 a.id,.int .i64 a.n,.int .i64 a.view,.int .i64 a.last,.bool a.works,.int .i64 a.commit,.slice B6 a.log.length b6_,.slice B7 a.acks.length b7_,.slice B8 a.votes.length b8_] 26))
 replace UJ:=Aside0.mk (UJ.out.alloc (.cells #[.int .i64 a.id,.int .i64 a.n,.int .i64 a.view,.int .i64 a.last,.bool a.works,.int .i64 a.commit,.slice B6 a.log.length b6_,.slice B7 a.acks.length b7_,.slice B8 a.votes.length b8_] 26))
 replace TJ:=Aside0.mk (TJ.out.alloc (.cells #[.int .i64 a.id,.int .i64 a.n,.int .i64 a.view,.int .i64 a.last,.bool a.works,.int .i64 a.commit,.slice B6 a.log.length b6_,.slice B7 a.acks.length b7_,.slice B8 a.votes.length b8_] 26))
 replace SJ:=Aside0.mk (SJ.out.alloc (.cells #[.int .i64 a.id,.int .i64 a.n,.int .i64 a.view,.int .i64 a.last,.bool a.works,.int .i64 a.commit,.slice B6 a.log.length b6_,.slice B7 a.acks.length b7_,.slice B8 a.votes.length b8_] 26))
 replace RB:=Aside0.mk (RB.out.alloc (.cells #[.int .i64 a.id,.int .i64 a.n,.int .i64 a.view,.int .i64 a.last,.bool a.works,.int .i64 a.commit,.slice B6 a.log.length b6_,.slice B7 a.acks.length b7_,.slice B8 a.votes.length b8_] 26))
 replace HV:=Aside0.mk (below_alloc HV.out (.cells #[.int .i64 a.id,.int .i64 a.n,.int .i64 a.view,.int .i64 a.last,.bool a.works,.int .i64 a.commit,.slice B6 a.log.length b6_,.slice B7 a.acks.length b7_,.slice B8 a.votes.length b8_] 26))
 replace ZJ:=Aside0.mk (Nat.le_trans ZJ.out (below_alloc (Below.refl wB.heap.size wB) (.cells #[.int .i64 a.id,.int .i64 a.n,.int .i64 a.view,.int .i64 a.last,.bool a.works,.int .i64 a.commit,.slice B6 a.log.length b6_,.slice B7 a.acks.length b7_,.slice B8 a.votes.length b8_] 26)).size)
 have SB:=Aside0.mk (Stays.new wB (.cells #[.int .i64 a.id,.int .i64 a.n,.int .i64 a.view,.int .i64 a.last,.bool a.works,.int .i64 a.commit,.slice B6 a.log.length b6_,.slice B7 a.acks.length b7_,.slice B8 a.votes.length b8_] 26))
 obtain ⟨p0,p1,p2,p3,p4,p5,p6,p7,p8⟩:=cells9 (SX.out.below HV.out).here
 go_wp2_with (fail)
 clear p0 p1 p2 p3 p4 p5 p6 p7 p8
 generalize (wB.alloc (.cells #[.int .i64 a.id,.int .i64 a.n,.int .i64 a.view,.int .i64 a.last,.bool a.works,.int .i64 a.commit,.slice B6 a.log.length b6_,.slice B7 a.acks.length b7_,.slice B8 a.votes.length b8_] 26))=WB at RJ UJ TJ SJ RB SB HV ZJ ⊢
 generalize wB.heap.size=gB at SB ⊢
 go_at_call 8
 refine (timeout_stays QT.out NK.out.fits (AX.out.below HV.out).here).mono ?_
 rintro e_ wC ⟨C6,c6_,C7,c7_,C8,c8_,C9,c9_,rfl,h9,hS,hb⟩
 replace RJ:=Aside0.mk (RJ.out.below hb)
 replace UJ:=Aside0.mk (UJ.out.below hb)
 replace TJ:=Aside0.mk (TJ.out.below hb)
 replace SJ:=Aside0.mk (SJ.out.below hb)
 replace RB:=Aside0.mk (RB.out.below hb)
 replace SB:=Aside0.mk (SB.out.below hb)
 replace HV:=Aside0.mk (below_step HV.out hb)
 replace ZJ:=Aside0.mk (Nat.le_trans ZJ.out hb.size)
 have RC:=Aside0.mk hS
 have LC:=Aside0.mk h9
 clear hS hb h9
 replace RJ:=Aside0.mk (RJ.out.alloc (.cells #[.int .i64 k0.id,.int .i64 k0.n,.int .i64 k0.view,.int .i64 k0.last,.bool k0.works,.int .i64 k0.commit,.slice C6 k0.log.length c6_,.slice C7 k0.acks.length c7_,.slice C8 k0.votes.length c8_] 26))
 replace UJ:=Aside0.mk (UJ.out.alloc (.cells #[.int .i64 k0.id,.int .i64 k0.n,.int .i64 k0.view,.int .i64 k0.last,.bool k0.works,.int .i64 k0.commit,.slice C6 k0.log.length c6_,.slice C7 k0.acks.length c7_,.slice C8 k0.votes.length c8_] 26))
 replace TJ:=Aside0.mk (TJ.out.alloc (.cells #[.int .i64 k0.id,.int .i64 k0.n,.int .i64 k0.view,.int .i64 k0.last,.bool k0.works,.int .i64 k0.commit,.slice C6 k0.log.length c6_,.slice C7 k0.acks.length c7_,.slice C8 k0.votes.length c8_] 26))
 replace SJ:=Aside0.mk (SJ.out.alloc (.cells #[.int .i64 k0.id,.int .i64 k0.n,.int .i64 k0.view,.int .i64 k0.last,.bool k0.works,.int .i64 k0.commit,.slice C6 k0.log.length c6_,.slice C7 k0.acks.length c7_,.slice C8 k0.votes.length c8_] 26))
 replace RB:=Aside0.mk (RB.out.alloc (.cells #[.int .i64 k0.id,.int .i64 k0.n,.int .i64 k0.view,.int .i64 k0.last,.bool k0.works,.int .i64 k0.commit,.slice C6 k0.log.length c6_,.slice C7 k0.acks.length c7_,.slice C8 k0.votes.length c8_] 26))
 replace SB:=Aside0.mk (SB.out.alloc (.cells #[.int .i64 k0.id,.int .i64 k0.n,.int .i64 k0.view,.int .i64 k0.last,.bool k0.works,.int .i64 k0.commit,.slice C6 k0.log.length c6_,.slice C7 k0.acks.length c7_,.slice C8 k0.votes.length c8_] 26))
 replace RC:=Aside0.mk (RC.out.alloc (.cells #[.int .i64 k0.id,.int .i64 k0.n,.int .i64 k0.view,.int .i64 k0.last,.bool k0.works,.int .i64 k0.commit,.slice C6 k0.log.length c6_,.slice C7 k0.acks.length c7_,.slice C8 k0.votes.length c8_] 26))
 replace HV:=Aside0.mk (below_alloc HV.out (.cells #[.int .i64 k0.id,.int .i64 k0.n,.int .i64 k0.view,.int .i64 k0.last,.bool k0.works,.int .i64 k0.commit,.slice C6 k0.log.length c6_,.slice C7 k0.acks.length c7_,.slice C8 k0.votes.length c8_] 26))
 replace ZJ:=Aside0.mk (Nat.le_trans ZJ.out (below_alloc (Below.refl wC.heap.size wC) (.cells #[.int .i64 k0.id,.int .i64 k0.n,.int .i64 k0.view,.int .i64 k0.last,.bool k0.works,.int .i64 k0.commit,.slice C6 k0.log.length c6_,.slice C7 k0.acks.length c7_,.slice C8 k0.votes.length c8_] 26)).size)
 have SC:=Aside0.mk (Stays.new wC (.cells #[.int .i64 k0.id,.int .i64 k0.n,.int .i64 k0.view,.int .i64 k0.last,.bool k0.works,.int .i64 k0.commit,.slice C6 k0.log.length c6_,.slice C7 k0.acks.length c7_,.slice C8 k0.votes.length c8_] 26))
 obtain ⟨p0,p1,p2,p3,p4,p5,p6,p7,p8⟩:=cells9 (SO.out.below HV.out).here
 go_wp2_with (fail)
 clear p0 p1 p2 p3 p4 p5 p6 p7 p8
 generalize (wC.alloc (.cells #[.int .i64 k0.id,.int .i64 k0.n,.int .i64 k0.view,.int .i64 k0.last,.bool k0.works,.int .i64 k0.commit,.slice C6 k0.log.length c6_,.slice C7 k0.acks.length c7_,.slice C8 k0.votes.length c8_] 26))=WC at RJ UJ TJ SJ RB SB RC SC HV ZJ ⊢
 generalize wC.heap.size=gC at SC ⊢
 go_at_call 9
 refine (rtimeout_stays QT.out FX.out NK.out.fits (AO.out.below HV.out).here).mono ?_
 rintro e_ wD ⟨D6,d6_,D7,d7_,D8,d8_,D9,d9_,rfl,h9,hS,hb⟩
 replace RJ:=Aside0.mk (RJ.out.below hb)
 replace UJ:=Aside0.mk (UJ.out.below hb)
 replace TJ:=Aside0.mk (TJ.out.below hb)
 replace SJ:=Aside0.mk (SJ.out.below hb)
 replace RB:=Aside0.mk (RB.out.below hb)
 replace SB:=Aside0.mk (SB.out.below hb)
 replace RC:=Aside0.mk (RC.out.below hb)
 replace SC:=Aside0.mk (SC.out.below hb)
 replace HV:=Aside0.mk (below_step HV.out hb)
 replace ZJ:=Aside0.mk (Nat.le_trans ZJ.out hb.size)
 have RD:=Aside0.mk hS
 have LD:=Aside0.mk h9
 clear hS hb h9
 replace RJ:=Aside0.mk (RJ.out.alloc (.cells #[.int .i64 k0.id,.int .i64 k0.n,.int .i64 k0.view,.int .i64 k0.last,.bool k0.works,.int .i64 k0.commit,.slice D6 k0.log.length d6_,.slice D7 k0.acks.length d7_,.slice D8 k0.votes.length d8_] 26))
 replace UJ:=Aside0.mk (UJ.out.alloc (.cells #[.int .i64 k0.id,.int .i64 k0.n,.int .i64 k0.view,.int .i64 k0.last,.bool k0.works,.int .i64 k0.commit,.slice D6 k0.log.length d6_,.slice D7 k0.acks.length d7_,.slice D8 k0.votes.length d8_] 26))
 replace TJ:=Aside0.mk (TJ.out.alloc (.cells #[.int .i64 k0.id,.int .i64 k0.n,.int .i64 k0.view,.int .i64 k0.last,.bool k0.works,.int .i64 k0.commit,.slice D6 k0.log.length d6_,.slice D7 k0.acks.length d7_,.slice D8 k0.votes.length d8_] 26))
 replace SJ:=Aside0.mk (SJ.out.alloc (.cells #[.int .i64 k0.id,.int .i64 k0.n,.int .i64 k0.view,.int .i64 k0.last,.bool k0.works,.int .i64 k0.commit,.slice D6 k0.log.length d6_,.slice D7 k0.acks.length d7_,.slice D8 k0.votes.length d8_] 26))
 replace RB:=Aside0.mk (RB.out.alloc (.cells #[.int .i64 k0.id,.int .i64 k0.n,.int .i64 k0.view,.int .i64 k0.last,.bool k0.works,.int .i64 k0.commit,.slice D6 k0.log.length d6_,.slice D7 k0.acks.length d7_,.slice D8 k0.votes.length d8_] 26))
 replace SB:=Aside0.mk (SB.out.alloc (.cells #[.int .i64 k0.id,.int .i64 k0.n,.int .i64 k0.view,.int .i64 k0.last,.bool k0.works,.int .i64 k0.commit,.slice D6 k0.log.length d6_,.slice D7 k0.acks.length d7_,.slice D8 k0.votes.length d8_] 26))
 replace RC:=Aside0.mk (RC.out.alloc (.cells #[.int .i64 k0.id,.int .i64 k0.n,.int .i64 k0.view,.int .i64 k0.last,.bool k0.works,.int .i64 k0.commit,.slice D6 k0.log.length d6_,.slice D7 k0.acks.length d7_,.slice D8 k0.votes.length d8_] 26))
 replace SC:=Aside0.mk (SC.out.alloc (.cells #[.int .i64 k0.id,.int .i64 k0.n,.int .i64 k0.view,.int .i64 k0.last,.bool k0.works,.int .i64 k0.commit,.slice D6 k0.log.length d6_,.slice D7 k0.acks.length d7_,.slice D8 k0.votes.length d8_] 26))
 replace RD:=Aside0.mk (RD.out.alloc (.cells #[.int .i64 k0.id,.int .i64 k0.n,.int .i64 k0.view,.int .i64 k0.last,.bool k0.works,.int .i64 k0.commit,.slice D6 k0.log.length d6_,.slice D7 k0.acks.length d7_,.slice D8 k0.votes.length d8_] 26))
 replace HV:=Aside0.mk (below_alloc HV.out (.cells #[.int .i64 k0.id,.int .i64 k0.n,.int .i64 k0.view,.int .i64 k0.last,.bool k0.works,.int .i64 k0.commit,.slice D6 k0.log.length d6_,.slice D7 k0.acks.length d7_,.slice D8 k0.votes.length d8_] 26))
 replace ZJ:=Aside0.mk (Nat.le_trans ZJ.out (below_alloc (Below.refl wD.heap.size wD) (.cells #[.int .i64 k0.id,.int .i64 k0.n,.int .i64 k0.view,.int .i64 k0.last,.bool k0.works,.int .i64 k0.commit,.slice D6 k0.log.length d6_,.slice D7 k0.acks.length d7_,.slice D8 k0.votes.length d8_] 26)).size)
 have SD:=Aside0.mk (Stays.new wD (.cells #[.int .i64 k0.id,.int .i64 k0.n,.int .i64 k0.view,.int .i64 k0.last,.bool k0.works,.int .i64 k0.commit,.slice D6 k0.log.length d6_,.slice D7 k0.acks.length d7_,.slice D8 k0.votes.length d8_] 26))
 obtain ⟨p0,p1,p2,p3,p4,p5,p6,p7,p8⟩:=cells9 (SX.out.below HV.out).here
 obtain ⟨q0,q1,q2,q3,q4,q5,q6,q7⟩:=cells8 (SM.out.below HV.out).here
 go_wp2_with (fail)
 clear p0 p1 p2 p3 p4 p5 p6 p7 p8
 clear q0 q1 q2 q3 q4 q5 q6 q7
 generalize (wD.alloc (.cells #[.int .i64 k0.id,.int .i64 k0.n,.int .i64 k0.view,.int .i64 k0.last,.bool k0.works,.int .i64 k0.commit,.slice D6 k0.log.length d6_,.slice D7 k0.acks.length d7_,.slice D8 k0.votes.length d8_] 26))=WD at RJ UJ TJ SJ RB SB RC SC RD SD HV ZJ ⊢
 generalize wD.heap.size=gD at SD ⊢
 have ZD:=ZJ
 go_at_call 10
 refine (handle_owns QH.out NU.out.fits (AX.out.below HV.out).here (CM.out.below HV.out).here LM.out).mono ?_
 rintro e_ wE ⟨E6,e6_,E7,e7_,E8,e8_,E9,e9_,rfl,h9,hS,hb,P6,P9,g6,g9,hd⟩
 obtain ⟨PE_,QE_,hR,hT,hdis,hlt⟩:=owns_low HV.out.size g6 g9 hd
 clear g6 g9 hd
 replace RJ:=Aside0.mk (RJ.out.below hb)
 replace UJ:=Aside0.mk (UJ.out.below hb)
 replace TJ:=Aside0.mk (TJ.out.below hb)
 replace SJ:=Aside0.mk (SJ.out.below hb)
 replace RB:=Aside0.mk (RB.out.below hb)
 replace SB:=Aside0.mk (SB.out.below hb)
 replace RC:=Aside0.mk (RC.out.below hb)
 replace SC:=Aside0.mk (SC.out.below hb)
 replace RD:=Aside0.mk (RD.out.below hb)
 replace SD:=Aside0.mk (SD.out.below hb)
 replace HV:=Aside0.mk (below_step HV.out hb)
 replace ZJ:=Aside0.mk (Nat.le_trans ZJ.out hb.size)
 have RE:=Aside0.mk hS
 have LE:=Aside0.mk h9
 have XE:=Aside0.mk (show (∀ k,PE_ k→¬ PJ_ k)∧(∀ k,QJ_ k→¬ PE_ k)∧¬ PJ_ wE.heap.size from ⟨fun k h1 h2=>by have:=(hlt k (.inl h1)).1;have:=(DJ.out.2 k (.inl h2)).2;have:=ZD.out;omega,fun k h1 h2=>by have:=(hlt k (.inl h2)).1;have:=(DJ.out.2 k (.inr h1)).2;have:=ZD.out;omega,fun h=>by have:=(DJ.out.2 _ (.inl h)).2;have:=ZJ.out;omega⟩)
 have UE:=Aside0.mk hR
 have TE:=Aside0.mk hT
 have DE:=Aside0.mk (And.intro hdis hlt)
 clear hR hT hdis hlt
 clear hS hb h9
 replace RJ:=Aside0.mk (RJ.out.alloc (.cells #[.int .i64 u.id,.int .i64 u.n,.int .i64 u.view,.int .i64 u.last,.bool u.works,.int .i64 u.commit,.slice E6 u.log.length e6_,.slice E7 u.acks.length e7_,.slice E8 u.votes.length e8_] 26))
 replace UJ:=Aside0.mk (UJ.out.alloc (.cells #[.int .i64 u.id,.int .i64 u.n,.int .i64 u.view,.int .i64 u.last,.bool u.works,.int .i64 u.commit,.slice E6 u.log.length e6_,.slice E7 u.acks.length e7_,.slice E8 u.votes.length e8_] 26))
 replace TJ:=Aside0.mk (TJ.out.alloc (.cells #[.int .i64 u.id,.int .i64 u.n,.int .i64 u.view,.int .i64 u.last,.bool u.works,.int .i64 u.commit,.slice E6 u.log.length e6_,.slice E7 u.acks.length e7_,.slice E8 u.votes.length e8_] 26))
 replace SJ:=Aside0.mk (SJ.out.alloc (.cells #[.int .i64 u.id,.int .i64 u.n,.int .i64 u.view,.int .i64 u.last,.bool u.works,.int .i64 u.commit,.slice E6 u.log.length e6_,.slice E7 u.acks.length e7_,.slice E8 u.votes.length e8_] 26))
 replace RB:=Aside0.mk (RB.out.alloc (.cells #[.int .i64 u.id,.int .i64 u.n,.int .i64 u.view,.int .i64 u.last,.bool u.works,.int .i64 u.commit,.slice E6 u.log.length e6_,.slice E7 u.acks.length e7_,.slice E8 u.votes.length e8_] 26))
 replace SB:=Aside0.mk (SB.out.alloc (.cells #[.int .i64 u.id,.int .i64 u.n,.int .i64 u.view,.int .i64 u.last,.bool u.works,.int .i64 u.commit,.slice E6 u.log.length e6_,.slice E7 u.acks.length e7_,.slice E8 u.votes.length e8_] 26))
 replace RC:=Aside0.mk (RC.out.alloc (.cells #[.int .i64 u.id,.int .i64 u.n,.int .i64 u.view,.int .i64 u.last,.bool u.works,.int .i64 u.commit,.slice E6 u.log.length e6_,.slice E7 u.acks.length e7_,.slice E8 u.votes.length e8_] 26))
 replace SC:=Aside0.mk (SC.out.alloc (.cells #[.int .i64 u.id,.int .i64 u.n,.int .i64 u.view,.int .i64 u.last,.bool u.works,.int .i64 u.commit,.slice E6 u.log.length e6_,.slice E7 u.acks.length e7_,.slice E8 u.votes.length e8_] 26))
 replace RD:=Aside0.mk (RD.out.alloc (.cells #[.int .i64 u.id,.int .i64 u.n,.int .i64 u.view,.int .i64 u.last,.bool u.works,.int .i64 u.commit,.slice E6 u.log.length e6_,.slice E7 u.acks.length e7_,.slice E8 u.votes.length e8_] 26))
 replace SD:=Aside0.mk (SD.out.alloc (.cells #[.int .i64 u.id,.int .i64 u.n,.int .i64 u.view,.int .i64 u.last,.bool u.works,.int .i64 u.commit,.slice E6 u.log.length e6_,.slice E7 u.acks.length e7_,.slice E8 u.votes.length e8_] 26))
 replace RE:=Aside0.mk (RE.out.alloc (.cells #[.int .i64 u.id,.int .i64 u.n,.int .i64 u.view,.int .i64 u.last,.bool u.works,.int .i64 u.commit,.slice E6 u.log.length e6_,.slice E7 u.acks.length e7_,.slice E8 u.votes.length e8_] 26))
 replace UE:=Aside0.mk (UE.out.alloc (.cells #[.int .i64 u.id,.int .i64 u.n,.int .i64 u.view,.int .i64 u.last,.bool u.works,.int .i64 u.commit,.slice E6 u.log.length e6_,.slice E7 u.acks.length e7_,.slice E8 u.votes.length e8_] 26))
 replace TE:=Aside0.mk (TE.out.alloc (.cells #[.int .i64 u.id,.int .i64 u.n,.int .i64 u.view,.int .i64 u.last,.bool u.works,.int .i64 u.commit,.slice E6 u.log.length e6_,.slice E7 u.acks.length e7_,.slice E8 u.votes.length e8_] 26))
 replace HV:=Aside0.mk (below_alloc HV.out (.cells #[.int .i64 u.id,.int .i64 u.n,.int .i64 u.view,.int .i64 u.last,.bool u.works,.int .i64 u.commit,.slice E6 u.log.length e6_,.slice E7 u.acks.length e7_,.slice E8 u.votes.length e8_] 26))
 replace ZJ:=Aside0.mk (Nat.le_trans ZJ.out (below_alloc (Below.refl wE.heap.size wE) (.cells #[.int .i64 u.id,.int .i64 u.n,.int .i64 u.view,.int .i64 u.last,.bool u.works,.int .i64 u.commit,.slice E6 u.log.length e6_,.slice E7 u.acks.length e7_,.slice E8 u.votes.length e8_] 26)).size)
 have SE:=Aside0.mk (Stays.new wE (.cells #[.int .i64 u.id,.int .i64 u.n,.int .i64 u.view,.int .i64 u.last,.bool u.works,.int .i64 u.commit,.slice E6 u.log.length e6_,.slice E7 u.acks.length e7_,.slice E8 u.votes.length e8_] 26))
 obtain ⟨p0,p1,p2,p3,p4,p5,p6,p7,p8⟩:=cells9 (SO.out.below HV.out).here
 obtain ⟨q0,q1,q2,q3,q4,q5,q6,q7⟩:=cells8 (SM.out.below HV.out).here
 go_wp2_with (fail)
 clear p0 p1 p2 p3 p4 p5 p6 p7 p8
 clear q0 q1 q2 q3 q4 q5 q6 q7
 generalize (wE.alloc (.cells #[.int .i64 u.id,.int .i64 u.n,.int .i64 u.view,.int .i64 u.last,.bool u.works,.int .i64 u.commit,.slice E6 u.log.length e6_,.slice E7 u.acks.length e7_,.slice E8 u.votes.length e8_] 26))=WE at RJ UJ TJ SJ RB SB RC SC RD SD RE UE TE SE HV ZJ ⊢
 generalize wE.heap.size=gE at SE XE ⊢
 go_at_call 11
 refine (rhandle_stays QH.out FX.out HL.out NU.out.fits (AO.out.below HV.out).here (CM.out.below HV.out).here LM.out).mono ?_
 rintro e_ wF ⟨F6,f6_,F7,f7_,F8,f8_,F9,f9_,rfl,h9,hS,hb⟩
 replace RJ:=Aside0.mk (RJ.out.below hb)
 replace UJ:=Aside0.mk (UJ.out.below hb)
 replace TJ:=Aside0.mk (TJ.out.below hb)
 replace SJ:=Aside0.mk (SJ.out.below hb)
 replace RB:=Aside0.mk (RB.out.below hb)
 replace SB:=Aside0.mk (SB.out.below hb)
 replace RC:=Aside0.mk (RC.out.below hb)
 replace SC:=Aside0.mk (SC.out.below hb)
 replace RD:=Aside0.mk (RD.out.below hb)
 replace SD:=Aside0.mk (SD.out.below hb)
 replace RE:=Aside0.mk (RE.out.below hb)
 replace UE:=Aside0.mk (UE.out.below hb)
 replace TE:=Aside0.mk (TE.out.below hb)
 replace SE:=Aside0.mk (SE.out.below hb)
 replace HV:=Aside0.mk (below_step HV.out hb)
 replace ZJ:=Aside0.mk (Nat.le_trans ZJ.out hb.size)
 have RF:=Aside0.mk hS
 have LF:=Aside0.mk h9
 clear hS hb h9
 replace RJ:=Aside0.mk (RJ.out.alloc (.cells #[.int .i64 u.id,.int .i64 u.n,.int .i64 u.view,.int .i64 u.last,.bool u.works,.int .i64 u.commit,.slice F6 u.log.length f6_,.slice F7 u.acks.length f7_,.slice F8 u.votes.length f8_] 26))
 replace UJ:=Aside0.mk (UJ.out.alloc (.cells #[.int .i64 u.id,.int .i64 u.n,.int .i64 u.view,.int .i64 u.last,.bool u.works,.int .i64 u.commit,.slice F6 u.log.length f6_,.slice F7 u.acks.length f7_,.slice F8 u.votes.length f8_] 26))
 replace TJ:=Aside0.mk (TJ.out.alloc (.cells #[.int .i64 u.id,.int .i64 u.n,.int .i64 u.view,.int .i64 u.last,.bool u.works,.int .i64 u.commit,.slice F6 u.log.length f6_,.slice F7 u.acks.length f7_,.slice F8 u.votes.length f8_] 26))
 replace SJ:=Aside0.mk (SJ.out.alloc (.cells #[.int .i64 u.id,.int .i64 u.n,.int .i64 u.view,.int .i64 u.last,.bool u.works,.int .i64 u.commit,.slice F6 u.log.length f6_,.slice F7 u.acks.length f7_,.slice F8 u.votes.length f8_] 26))
 replace RB:=Aside0.mk (RB.out.alloc (.cells #[.int .i64 u.id,.int .i64 u.n,.int .i64 u.view,.int .i64 u.last,.bool u.works,.int .i64 u.commit,.slice F6 u.log.length f6_,.slice F7 u.acks.length f7_,.slice F8 u.votes.length f8_] 26))
 replace SB:=Aside0.mk (SB.out.alloc (.cells #[.int .i64 u.id,.int .i64 u.n,.int .i64 u.view,.int .i64 u.last,.bool u.works,.int .i64 u.commit,.slice F6 u.log.length f6_,.slice F7 u.acks.length f7_,.slice F8 u.votes.length f8_] 26))
 replace RC:=Aside0.mk (RC.out.alloc (.cells #[.int .i64 u.id,.int .i64 u.n,.int .i64 u.view,.int .i64 u.last,.bool u.works,.int .i64 u.commit,.slice F6 u.log.length f6_,.slice F7 u.acks.length f7_,.slice F8 u.votes.length f8_] 26))
 replace SC:=Aside0.mk (SC.out.alloc (.cells #[.int .i64 u.id,.int .i64 u.n,.int .i64 u.view,.int .i64 u.last,.bool u.works,.int .i64 u.commit,.slice F6 u.log.length f6_,.slice F7 u.acks.length f7_,.slice F8 u.votes.length f8_] 26))
 replace RD:=Aside0.mk (RD.out.alloc (.cells #[.int .i64 u.id,.int .i64 u.n,.int .i64 u.view,.int .i64 u.last,.bool u.works,.int .i64 u.commit,.slice F6 u.log.length f6_,.slice F7 u.acks.length f7_,.slice F8 u.votes.length f8_] 26))
 replace SD:=Aside0.mk (SD.out.alloc (.cells #[.int .i64 u.id,.int .i64 u.n,.int .i64 u.view,.int .i64 u.last,.bool u.works,.int .i64 u.commit,.slice F6 u.log.length f6_,.slice F7 u.acks.length f7_,.slice F8 u.votes.length f8_] 26))
 replace RE:=Aside0.mk (RE.out.alloc (.cells #[.int .i64 u.id,.int .i64 u.n,.int .i64 u.view,.int .i64 u.last,.bool u.works,.int .i64 u.commit,.slice F6 u.log.length f6_,.slice F7 u.acks.length f7_,.slice F8 u.votes.length f8_] 26))
 replace UE:=Aside0.mk (UE.out.alloc (.cells #[.int .i64 u.id,.int .i64 u.n,.int .i64 u.view,.int .i64 u.last,.bool u.works,.int .i64 u.commit,.slice F6 u.log.length f6_,.slice F7 u.acks.length f7_,.slice F8 u.votes.length f8_] 26))
 replace TE:=Aside0.mk (TE.out.alloc (.cells #[.int .i64 u.id,.int .i64 u.n,.int .i64 u.view,.int .i64 u.last,.bool u.works,.int .i64 u.commit,.slice F6 u.log.length f6_,.slice F7 u.acks.length f7_,.slice F8 u.votes.length f8_] 26))
 replace SE:=Aside0.mk (SE.out.alloc (.cells #[.int .i64 u.id,.int .i64 u.n,.int .i64 u.view,.int .i64 u.last,.bool u.works,.int .i64 u.commit,.slice F6 u.log.length f6_,.slice F7 u.acks.length f7_,.slice F8 u.votes.length f8_] 26))
 replace RF:=Aside0.mk (RF.out.alloc (.cells #[.int .i64 u.id,.int .i64 u.n,.int .i64 u.view,.int .i64 u.last,.bool u.works,.int .i64 u.commit,.slice F6 u.log.length f6_,.slice F7 u.acks.length f7_,.slice F8 u.votes.length f8_] 26))
 replace HV:=Aside0.mk (below_alloc HV.out (.cells #[.int .i64 u.id,.int .i64 u.n,.int .i64 u.view,.int .i64 u.last,.bool u.works,.int .i64 u.commit,.slice F6 u.log.length f6_,.slice F7 u.acks.length f7_,.slice F8 u.votes.length f8_] 26))
 replace ZJ:=Aside0.mk (Nat.le_trans ZJ.out (below_alloc (Below.refl wF.heap.size wF) (.cells #[.int .i64 u.id,.int .i64 u.n,.int .i64 u.view,.int .i64 u.last,.bool u.works,.int .i64 u.commit,.slice F6 u.log.length f6_,.slice F7 u.acks.length f7_,.slice F8 u.votes.length f8_] 26)).size)
 have SF:=Aside0.mk (Stays.new wF (.cells #[.int .i64 u.id,.int .i64 u.n,.int .i64 u.view,.int .i64 u.last,.bool u.works,.int .i64 u.commit,.slice F6 u.log.length f6_,.slice F7 u.acks.length f7_,.slice F8 u.votes.length f8_] 26))
 obtain ⟨p0,p1,p2,p3,p4,p5,p6,p7,p8⟩:=cells9 (SX.out.below HV.out).here
 go_wp2_with (fail)
 clear p0 p1 p2 p3 p4 p5 p6 p7 p8
 generalize (wF.alloc (.cells #[.int .i64 u.id,.int .i64 u.n,.int .i64 u.view,.int .i64 u.last,.bool u.works,.int .i64 u.commit,.slice F6 u.log.length f6_,.slice F7 u.acks.length f7_,.slice F8 u.votes.length f8_] 26))=WF at RJ UJ TJ SJ RB SB RC SC RD SD RE UE TE SE RF SF HV ZJ ⊢
 generalize wF.heap.size=gF at SF ⊢
 go_at_call 12
 refine (restart_stays QR.out NY.out.fits (AX.out.below HV.out).here).mono ?_
 rintro e_ wG ⟨G6,g6_,G7,g7_,G8,g8_,rfl,hS,hb⟩
 replace RJ:=Aside0.mk (RJ.out.below hb)
 replace UJ:=Aside0.mk (UJ.out.below hb)
 replace TJ:=Aside0.mk (TJ.out.below hb)
 replace SJ:=Aside0.mk (SJ.out.below hb)
 replace RB:=Aside0.mk (RB.out.below hb)
 replace SB:=Aside0.mk (SB.out.below hb)
 replace RC:=Aside0.mk (RC.out.below hb)
 replace SC:=Aside0.mk (SC.out.below hb)
 replace RD:=Aside0.mk (RD.out.below hb)
 replace SD:=Aside0.mk (SD.out.below hb)
 replace RE:=Aside0.mk (RE.out.below hb)
 replace UE:=Aside0.mk (UE.out.below hb)
 replace TE:=Aside0.mk (TE.out.below hb)
 replace SE:=Aside0.mk (SE.out.below hb)
 replace RF:=Aside0.mk (RF.out.below hb)
 replace SF:=Aside0.mk (SF.out.below hb)
 replace HV:=Aside0.mk (below_step HV.out hb)
 replace ZJ:=Aside0.mk (Nat.le_trans ZJ.out hb.size)
 have RG:=Aside0.mk hS
 clear hS hb
 replace RJ:=Aside0.mk (RJ.out.alloc (.cells #[.int .i64 y.id,.int .i64 y.n,.int .i64 y.view,.int .i64 y.last,.bool y.works,.int .i64 y.commit,.slice G6 y.log.length g6_,.slice G7 y.acks.length g7_,.slice G8 y.votes.length g8_] 26))
 replace UJ:=Aside0.mk (UJ.out.alloc (.cells #[.int .i64 y.id,.int .i64 y.n,.int .i64 y.view,.int .i64 y.last,.bool y.works,.int .i64 y.commit,.slice G6 y.log.length g6_,.slice G7 y.acks.length g7_,.slice G8 y.votes.length g8_] 26))
 replace TJ:=Aside0.mk (TJ.out.alloc (.cells #[.int .i64 y.id,.int .i64 y.n,.int .i64 y.view,.int .i64 y.last,.bool y.works,.int .i64 y.commit,.slice G6 y.log.length g6_,.slice G7 y.acks.length g7_,.slice G8 y.votes.length g8_] 26))
 replace SJ:=Aside0.mk (SJ.out.alloc (.cells #[.int .i64 y.id,.int .i64 y.n,.int .i64 y.view,.int .i64 y.last,.bool y.works,.int .i64 y.commit,.slice G6 y.log.length g6_,.slice G7 y.acks.length g7_,.slice G8 y.votes.length g8_] 26))
 replace RB:=Aside0.mk (RB.out.alloc (.cells #[.int .i64 y.id,.int .i64 y.n,.int .i64 y.view,.int .i64 y.last,.bool y.works,.int .i64 y.commit,.slice G6 y.log.length g6_,.slice G7 y.acks.length g7_,.slice G8 y.votes.length g8_] 26))
 replace SB:=Aside0.mk (SB.out.alloc (.cells #[.int .i64 y.id,.int .i64 y.n,.int .i64 y.view,.int .i64 y.last,.bool y.works,.int .i64 y.commit,.slice G6 y.log.length g6_,.slice G7 y.acks.length g7_,.slice G8 y.votes.length g8_] 26))
 replace RC:=Aside0.mk (RC.out.alloc (.cells #[.int .i64 y.id,.int .i64 y.n,.int .i64 y.view,.int .i64 y.last,.bool y.works,.int .i64 y.commit,.slice G6 y.log.length g6_,.slice G7 y.acks.length g7_,.slice G8 y.votes.length g8_] 26))
 replace SC:=Aside0.mk (SC.out.alloc (.cells #[.int .i64 y.id,.int .i64 y.n,.int .i64 y.view,.int .i64 y.last,.bool y.works,.int .i64 y.commit,.slice G6 y.log.length g6_,.slice G7 y.acks.length g7_,.slice G8 y.votes.length g8_] 26))
 replace RD:=Aside0.mk (RD.out.alloc (.cells #[.int .i64 y.id,.int .i64 y.n,.int .i64 y.view,.int .i64 y.last,.bool y.works,.int .i64 y.commit,.slice G6 y.log.length g6_,.slice G7 y.acks.length g7_,.slice G8 y.votes.length g8_] 26))
 replace SD:=Aside0.mk (SD.out.alloc (.cells #[.int .i64 y.id,.int .i64 y.n,.int .i64 y.view,.int .i64 y.last,.bool y.works,.int .i64 y.commit,.slice G6 y.log.length g6_,.slice G7 y.acks.length g7_,.slice G8 y.votes.length g8_] 26))
 replace RE:=Aside0.mk (RE.out.alloc (.cells #[.int .i64 y.id,.int .i64 y.n,.int .i64 y.view,.int .i64 y.last,.bool y.works,.int .i64 y.commit,.slice G6 y.log.length g6_,.slice G7 y.acks.length g7_,.slice G8 y.votes.length g8_] 26))
 replace UE:=Aside0.mk (UE.out.alloc (.cells #[.int .i64 y.id,.int .i64 y.n,.int .i64 y.view,.int .i64 y.last,.bool y.works,.int .i64 y.commit,.slice G6 y.log.length g6_,.slice G7 y.acks.length g7_,.slice G8 y.votes.length g8_] 26))
 replace TE:=Aside0.mk (TE.out.alloc (.cells #[.int .i64 y.id,.int .i64 y.n,.int .i64 y.view,.int .i64 y.last,.bool y.works,.int .i64 y.commit,.slice G6 y.log.length g6_,.slice G7 y.acks.length g7_,.slice G8 y.votes.length g8_] 26))
 replace SE:=Aside0.mk (SE.out.alloc (.cells #[.int .i64 y.id,.int .i64 y.n,.int .i64 y.view,.int .i64 y.last,.bool y.works,.int .i64 y.commit,.slice G6 y.log.length g6_,.slice G7 y.acks.length g7_,.slice G8 y.votes.length g8_] 26))
 replace RF:=Aside0.mk (RF.out.alloc (.cells #[.int .i64 y.id,.int .i64 y.n,.int .i64 y.view,.int .i64 y.last,.bool y.works,.int .i64 y.commit,.slice G6 y.log.length g6_,.slice G7 y.acks.length g7_,.slice G8 y.votes.length g8_] 26))
 replace SF:=Aside0.mk (SF.out.alloc (.cells #[.int .i64 y.id,.int .i64 y.n,.int .i64 y.view,.int .i64 y.last,.bool y.works,.int .i64 y.commit,.slice G6 y.log.length g6_,.slice G7 y.acks.length g7_,.slice G8 y.votes.length g8_] 26))
 replace RG:=Aside0.mk (RG.out.alloc (.cells #[.int .i64 y.id,.int .i64 y.n,.int .i64 y.view,.int .i64 y.last,.bool y.works,.int .i64 y.commit,.slice G6 y.log.length g6_,.slice G7 y.acks.length g7_,.slice G8 y.votes.length g8_] 26))
 replace HV:=Aside0.mk (below_alloc HV.out (.cells #[.int .i64 y.id,.int .i64 y.n,.int .i64 y.view,.int .i64 y.last,.bool y.works,.int .i64 y.commit,.slice G6 y.log.length g6_,.slice G7 y.acks.length g7_,.slice G8 y.votes.length g8_] 26))
 replace ZJ:=Aside0.mk (Nat.le_trans ZJ.out (below_alloc (Below.refl wG.heap.size wG) (.cells #[.int .i64 y.id,.int .i64 y.n,.int .i64 y.view,.int .i64 y.last,.bool y.works,.int .i64 y.commit,.slice G6 y.log.length g6_,.slice G7 y.acks.length g7_,.slice G8 y.votes.length g8_] 26)).size)
 have SG:=Aside0.mk (Stays.new wG (.cells #[.int .i64 y.id,.int .i64 y.n,.int .i64 y.view,.int .i64 y.last,.bool y.works,.int .i64 y.commit,.slice G6 y.log.length g6_,.slice G7 y.acks.length g7_,.slice G8 y.votes.length g8_] 26))
 obtain ⟨p0,p1,p2,p3,p4,p5,p6,p7,p8⟩:=cells9 (SO.out.below HV.out).here
 go_wp2_with (fail)
 clear p0 p1 p2 p3 p4 p5 p6 p7 p8
 generalize (wG.alloc (.cells #[.int .i64 y.id,.int .i64 y.n,.int .i64 y.view,.int .i64 y.last,.bool y.works,.int .i64 y.commit,.slice G6 y.log.length g6_,.slice G7 y.acks.length g7_,.slice G8 y.votes.length g8_] 26))=WG at RJ UJ TJ SJ RB SB RC SC RD SD RE UE TE SE RF SF RG SG HV ZJ ⊢
 generalize wG.heap.size=gG at SG ⊢
 go_at_call 13
 refine (rrestart_stays QR.out FX.out NY.out.fits (AO.out.below HV.out).here).mono ?_
 rintro e_ wH ⟨H6,h6_,H7,h7_,H8,h8_,rfl,hS,hb⟩
 replace RJ:=Aside0.mk (RJ.out.below hb)
 replace UJ:=Aside0.mk (UJ.out.below hb)
 replace TJ:=Aside0.mk (TJ.out.below hb)
 replace SJ:=Aside0.mk (SJ.out.below hb)
 replace RB:=Aside0.mk (RB.out.below hb)
 replace SB:=Aside0.mk (SB.out.below hb)
 replace RC:=Aside0.mk (RC.out.below hb)
 replace SC:=Aside0.mk (SC.out.below hb)
 replace RD:=Aside0.mk (RD.out.below hb)
 replace SD:=Aside0.mk (SD.out.below hb)
 replace RE:=Aside0.mk (RE.out.below hb)
 replace UE:=Aside0.mk (UE.out.below hb)
 replace TE:=Aside0.mk (TE.out.below hb)
 replace SE:=Aside0.mk (SE.out.below hb)
 replace RF:=Aside0.mk (RF.out.below hb)
 replace SF:=Aside0.mk (SF.out.below hb)
 replace RG:=Aside0.mk (RG.out.below hb)
 replace SG:=Aside0.mk (SG.out.below hb)
 replace HV:=Aside0.mk (below_step HV.out hb)
 replace ZJ:=Aside0.mk (Nat.le_trans ZJ.out hb.size)
 have RH:=Aside0.mk hS
 clear hS hb
 replace RJ:=Aside0.mk (RJ.out.alloc (.cells #[.int .i64 y.id,.int .i64 y.n,.int .i64 y.view,.int .i64 y.last,.bool y.works,.int .i64 y.commit,.slice H6 y.log.length h6_,.slice H7 y.acks.length h7_,.slice H8 y.votes.length h8_] 26))
 replace UJ:=Aside0.mk (UJ.out.alloc (.cells #[.int .i64 y.id,.int .i64 y.n,.int .i64 y.view,.int .i64 y.last,.bool y.works,.int .i64 y.commit,.slice H6 y.log.length h6_,.slice H7 y.acks.length h7_,.slice H8 y.votes.length h8_] 26))
 replace TJ:=Aside0.mk (TJ.out.alloc (.cells #[.int .i64 y.id,.int .i64 y.n,.int .i64 y.view,.int .i64 y.last,.bool y.works,.int .i64 y.commit,.slice H6 y.log.length h6_,.slice H7 y.acks.length h7_,.slice H8 y.votes.length h8_] 26))
 replace SJ:=Aside0.mk (SJ.out.alloc (.cells #[.int .i64 y.id,.int .i64 y.n,.int .i64 y.view,.int .i64 y.last,.bool y.works,.int .i64 y.commit,.slice H6 y.log.length h6_,.slice H7 y.acks.length h7_,.slice H8 y.votes.length h8_] 26))
 replace RB:=Aside0.mk (RB.out.alloc (.cells #[.int .i64 y.id,.int .i64 y.n,.int .i64 y.view,.int .i64 y.last,.bool y.works,.int .i64 y.commit,.slice H6 y.log.length h6_,.slice H7 y.acks.length h7_,.slice H8 y.votes.length h8_] 26))
 replace SB:=Aside0.mk (SB.out.alloc (.cells #[.int .i64 y.id,.int .i64 y.n,.int .i64 y.view,.int .i64 y.last,.bool y.works,.int .i64 y.commit,.slice H6 y.log.length h6_,.slice H7 y.acks.length h7_,.slice H8 y.votes.length h8_] 26))
 replace RC:=Aside0.mk (RC.out.alloc (.cells #[.int .i64 y.id,.int .i64 y.n,.int .i64 y.view,.int .i64 y.last,.bool y.works,.int .i64 y.commit,.slice H6 y.log.length h6_,.slice H7 y.acks.length h7_,.slice H8 y.votes.length h8_] 26))
 replace SC:=Aside0.mk (SC.out.alloc (.cells #[.int .i64 y.id,.int .i64 y.n,.int .i64 y.view,.int .i64 y.last,.bool y.works,.int .i64 y.commit,.slice H6 y.log.length h6_,.slice H7 y.acks.length h7_,.slice H8 y.votes.length h8_] 26))
 replace RD:=Aside0.mk (RD.out.alloc (.cells #[.int .i64 y.id,.int .i64 y.n,.int .i64 y.view,.int .i64 y.last,.bool y.works,.int .i64 y.commit,.slice H6 y.log.length h6_,.slice H7 y.acks.length h7_,.slice H8 y.votes.length h8_] 26))
 replace SD:=Aside0.mk (SD.out.alloc (.cells #[.int .i64 y.id,.int .i64 y.n,.int .i64 y.view,.int .i64 y.last,.bool y.works,.int .i64 y.commit,.slice H6 y.log.length h6_,.slice H7 y.acks.length h7_,.slice H8 y.votes.length h8_] 26))
 replace RE:=Aside0.mk (RE.out.alloc (.cells #[.int .i64 y.id,.int .i64 y.n,.int .i64 y.view,.int .i64 y.last,.bool y.works,.int .i64 y.commit,.slice H6 y.log.length h6_,.slice H7 y.acks.length h7_,.slice H8 y.votes.length h8_] 26))
 replace UE:=Aside0.mk (UE.out.alloc (.cells #[.int .i64 y.id,.int .i64 y.n,.int .i64 y.view,.int .i64 y.last,.bool y.works,.int .i64 y.commit,.slice H6 y.log.length h6_,.slice H7 y.acks.length h7_,.slice H8 y.votes.length h8_] 26))
 replace TE:=Aside0.mk (TE.out.alloc (.cells #[.int .i64 y.id,.int .i64 y.n,.int .i64 y.view,.int .i64 y.last,.bool y.works,.int .i64 y.commit,.slice H6 y.log.length h6_,.slice H7 y.acks.length h7_,.slice H8 y.votes.length h8_] 26))
 replace SE:=Aside0.mk (SE.out.alloc (.cells #[.int .i64 y.id,.int .i64 y.n,.int .i64 y.view,.int .i64 y.last,.bool y.works,.int .i64 y.commit,.slice H6 y.log.length h6_,.slice H7 y.acks.length h7_,.slice H8 y.votes.length h8_] 26))
 replace RF:=Aside0.mk (RF.out.alloc (.cells #[.int .i64 y.id,.int .i64 y.n,.int .i64 y.view,.int .i64 y.last,.bool y.works,.int .i64 y.commit,.slice H6 y.log.length h6_,.slice H7 y.acks.length h7_,.slice H8 y.votes.length h8_] 26))
 replace SF:=Aside0.mk (SF.out.alloc (.cells #[.int .i64 y.id,.int .i64 y.n,.int .i64 y.view,.int .i64 y.last,.bool y.works,.int .i64 y.commit,.slice H6 y.log.length h6_,.slice H7 y.acks.length h7_,.slice H8 y.votes.length h8_] 26))
 replace RG:=Aside0.mk (RG.out.alloc (.cells #[.int .i64 y.id,.int .i64 y.n,.int .i64 y.view,.int .i64 y.last,.bool y.works,.int .i64 y.commit,.slice H6 y.log.length h6_,.slice H7 y.acks.length h7_,.slice H8 y.votes.length h8_] 26))
 replace SG:=Aside0.mk (SG.out.alloc (.cells #[.int .i64 y.id,.int .i64 y.n,.int .i64 y.view,.int .i64 y.last,.bool y.works,.int .i64 y.commit,.slice H6 y.log.length h6_,.slice H7 y.acks.length h7_,.slice H8 y.votes.length h8_] 26))
 replace RH:=Aside0.mk (RH.out.alloc (.cells #[.int .i64 y.id,.int .i64 y.n,.int .i64 y.view,.int .i64 y.last,.bool y.works,.int .i64 y.commit,.slice H6 y.log.length h6_,.slice H7 y.acks.length h7_,.slice H8 y.votes.length h8_] 26))
 replace HV:=Aside0.mk (below_alloc HV.out (.cells #[.int .i64 y.id,.int .i64 y.n,.int .i64 y.view,.int .i64 y.last,.bool y.works,.int .i64 y.commit,.slice H6 y.log.length h6_,.slice H7 y.acks.length h7_,.slice H8 y.votes.length h8_] 26))
 replace ZJ:=Aside0.mk (Nat.le_trans ZJ.out (below_alloc (Below.refl wH.heap.size wH) (.cells #[.int .i64 y.id,.int .i64 y.n,.int .i64 y.view,.int .i64 y.last,.bool y.works,.int .i64 y.commit,.slice H6 y.log.length h6_,.slice H7 y.acks.length h7_,.slice H8 y.votes.length h8_] 26)).size)
 have SH:=Aside0.mk (Stays.new wH (.cells #[.int .i64 y.id,.int .i64 y.n,.int .i64 y.view,.int .i64 y.last,.bool y.works,.int .i64 y.commit,.slice H6 y.log.length h6_,.slice H7 y.acks.length h7_,.slice H8 y.votes.length h8_] 26))
 clear ZJ ZD
 obtain ⟨r0_0,r0_1,r0_2,r0_3,r0_4,r0_5,r0_6,r0_7,r0_8⟩:=cells9 SJ.out.here
 obtain ⟨r1_0,r1_1,r1_2,r1_3,r1_4,r1_5,r1_6,r1_7,r1_8⟩:=cells9 SB.out.here
 go_wp2_with (fail)
 clear r0_0 r0_1 r0_2 r0_3 r0_4 r0_5 r0_6 r0_7 r0_8 r1_0 r1_1 r1_2 r1_3 r1_4 r1_5 r1_6 r1_7 r1_8
 generalize (wH.alloc (.cells #[.int .i64 y.id,.int .i64 y.n,.int .i64 y.view,.int .i64 y.last,.bool y.works,.int .i64 y.commit,.slice H6 y.log.length h6_,.slice H7 y.acks.length h7_,.slice H8 y.votes.length h8_] 26))=WH at RJ UJ TJ SJ RB SB RC SC RD SD RE UE TE SE RF SF RG SG RH SH HV ⊢
 generalize wH.heap.size=gH at SH ⊢
 go_at_call 14
 refine (rs24_calls NA.out.few RJ.out.here.1 RB.out.here.1).mono ?_
 rintro e_ v1 ⟨rfl,hb⟩
 replace RJ:=Aside0.mk (RJ.out.below hb)
 replace UJ:=Aside0.mk (UJ.out.below hb)
 replace TJ:=Aside0.mk (TJ.out.below hb)
 replace SJ:=Aside0.mk (SJ.out.below hb)
 replace RB:=Aside0.mk (RB.out.below hb)
 replace SB:=Aside0.mk (SB.out.below hb)
 replace RC:=Aside0.mk (RC.out.below hb)
 replace SC:=Aside0.mk (SC.out.below hb)
 replace RD:=Aside0.mk (RD.out.below hb)
 replace SD:=Aside0.mk (SD.out.below hb)
 replace RE:=Aside0.mk (RE.out.below hb)
 replace UE:=Aside0.mk (UE.out.below hb)
 replace TE:=Aside0.mk (TE.out.below hb)
 replace SE:=Aside0.mk (SE.out.below hb)
 replace RF:=Aside0.mk (RF.out.below hb)
 replace SF:=Aside0.mk (SF.out.below hb)
 replace RG:=Aside0.mk (RG.out.below hb)
 replace SG:=Aside0.mk (SG.out.below hb)
 replace RH:=Aside0.mk (RH.out.below hb)
 replace SH:=Aside0.mk (SH.out.below hb)
 replace HV:=Aside0.mk (below_step HV.out hb)
 clear hb
 go_wp2_with (fail)
 go_at_call 15
 refine (rsrow_calls NA.out.told NA.out.each RJ.out.here.2 RB.out.here.2).mono ?_
 rintro e_ v2 ⟨rfl,hb⟩
 replace RJ:=Aside0.mk (RJ.out.below hb)
 replace UJ:=Aside0.mk (UJ.out.below hb)
 replace TJ:=Aside0.mk (TJ.out.below hb)
 replace SJ:=Aside0.mk (SJ.out.below hb)
 replace RB:=Aside0.mk (RB.out.below hb)
 replace SB:=Aside0.mk (SB.out.below hb)
 replace RC:=Aside0.mk (RC.out.below hb)
 replace SC:=Aside0.mk (SC.out.below hb)
 replace RD:=Aside0.mk (RD.out.below hb)
 replace SD:=Aside0.mk (SD.out.below hb)
 replace RE:=Aside0.mk (RE.out.below hb)
 replace UE:=Aside0.mk (UE.out.below hb)
 replace TE:=Aside0.mk (TE.out.below hb)
 replace SE:=Aside0.mk (SE.out.below hb)
 replace RF:=Aside0.mk (RF.out.below hb)
 replace SF:=Aside0.mk (SF.out.below hb)
 replace RG:=Aside0.mk (RG.out.below hb)
 replace SG:=Aside0.mk (SG.out.below hb)
 replace RH:=Aside0.mk (RH.out.below hb)
 replace SH:=Aside0.mk (SH.out.below hb)
 replace HV:=Aside0.mk (below_step HV.out hb)
 clear hb
 obtain ⟨r0_0,r0_1,r0_2,r0_3,r0_4,r0_5,r0_6,r0_7,r0_8⟩:=cells9 SC.out.here
 obtain ⟨r1_0,r1_1,r1_2,r1_3,r1_4,r1_5,r1_6,r1_7,r1_8⟩:=cells9 SD.out.here
 go_wp2_with (fail)
 clear r0_0 r0_1 r0_2 r0_3 r0_4 r0_5 r0_6 r0_7 r0_8 r1_0 r1_1 r1_2 r1_3 r1_4 r1_5 r1_6 r1_7 r1_8
 go_at_call 14
 refine (rs24_calls NK.out.few RC.out.here.1 RD.out.here.1).mono ?_
 rintro e_ v3 ⟨rfl,hb⟩
 replace RJ:=Aside0.mk (RJ.out.below hb)
 replace UJ:=Aside0.mk (UJ.out.below hb)
 replace TJ:=Aside0.mk (TJ.out.below hb)
 replace SJ:=Aside0.mk (SJ.out.below hb)
 replace RB:=Aside0.mk (RB.out.below hb)
 replace SB:=Aside0.mk (SB.out.below hb)
 replace RC:=Aside0.mk (RC.out.below hb)
 replace SC:=Aside0.mk (SC.out.below hb)
 replace RD:=Aside0.mk (RD.out.below hb)
 replace SD:=Aside0.mk (SD.out.below hb)
 replace RE:=Aside0.mk (RE.out.below hb)
 replace UE:=Aside0.mk (UE.out.below hb)
 replace TE:=Aside0.mk (TE.out.below hb)
 replace SE:=Aside0.mk (SE.out.below hb)
 replace RF:=Aside0.mk (RF.out.below hb)
 replace SF:=Aside0.mk (SF.out.below hb)
 replace RG:=Aside0.mk (RG.out.below hb)
 replace SG:=Aside0.mk (SG.out.below hb)
 replace RH:=Aside0.mk (RH.out.below hb)
 replace SH:=Aside0.mk (SH.out.below hb)
 replace HV:=Aside0.mk (below_step HV.out hb)
 clear hb
 go_wp2_with (fail)
 go_at_call 15
 refine (rsrow_calls NK.out.told NK.out.each RC.out.here.2 RD.out.here.2).mono ?_
 rintro e_ v4 ⟨rfl,hb⟩
 replace RJ:=Aside0.mk (RJ.out.below hb)
 replace UJ:=Aside0.mk (UJ.out.below hb)
 replace TJ:=Aside0.mk (TJ.out.below hb)
 replace SJ:=Aside0.mk (SJ.out.below hb)
 replace RB:=Aside0.mk (RB.out.below hb)
 replace SB:=Aside0.mk (SB.out.below hb)
 replace RC:=Aside0.mk (RC.out.below hb)
 replace SC:=Aside0.mk (SC.out.below hb)
 replace RD:=Aside0.mk (RD.out.below hb)
 replace SD:=Aside0.mk (SD.out.below hb)
 replace RE:=Aside0.mk (RE.out.below hb)
 replace UE:=Aside0.mk (UE.out.below hb)
 replace TE:=Aside0.mk (TE.out.below hb)
 replace SE:=Aside0.mk (SE.out.below hb)
 replace RF:=Aside0.mk (RF.out.below hb)
 replace SF:=Aside0.mk (SF.out.below hb)
 replace RG:=Aside0.mk (RG.out.below hb)
 replace SG:=Aside0.mk (SG.out.below hb)
 replace RH:=Aside0.mk (RH.out.below hb)
 replace SH:=Aside0.mk (SH.out.below hb)
 replace HV:=Aside0.mk (below_step HV.out hb)
 clear hb
 obtain ⟨r0_0,r0_1,r0_2,r0_3,r0_4,r0_5,r0_6,r0_7,r0_8⟩:=cells9 SE.out.here
 obtain ⟨r1_0,r1_1,r1_2,r1_3,r1_4,r1_5,r1_6,r1_7,r1_8⟩:=cells9 SF.out.here
 go_wp2_with (fail)
 clear r0_0 r0_1 r0_2 r0_3 r0_4 r0_5 r0_6 r0_7 r0_8 r1_0 r1_1 r1_2 r1_3 r1_4 r1_5 r1_6 r1_7 r1_8
 go_at_call 14
 refine (rs24_calls NU.out.few RE.out.here.1 RF.out.here.1).mono ?_
 rintro e_ v5 ⟨rfl,hb⟩
 replace RJ:=Aside0.mk (RJ.out.below hb)
 replace UJ:=Aside0.mk (UJ.out.below hb)
 replace TJ:=Aside0.mk (TJ.out.below hb)
 replace SJ:=Aside0.mk (SJ.out.below hb)
 replace RB:=Aside0.mk (RB.out.below hb)
 replace SB:=Aside0.mk (SB.out.below hb)
 replace RC:=Aside0.mk (RC.out.below hb)
 replace SC:=Aside0.mk (SC.out.below hb)
 replace RD:=Aside0.mk (RD.out.below hb)
 replace SD:=Aside0.mk (SD.out.below hb)
 replace RE:=Aside0.mk (RE.out.below hb)
 replace UE:=Aside0.mk (UE.out.below hb)
 replace TE:=Aside0.mk (TE.out.below hb)
 replace SE:=Aside0.mk (SE.out.below hb)
 replace RF:=Aside0.mk (RF.out.below hb)
 replace SF:=Aside0.mk (SF.out.below hb)
 replace RG:=Aside0.mk (RG.out.below hb)
 replace SG:=Aside0.mk (SG.out.below hb)
 replace RH:=Aside0.mk (RH.out.below hb)
 replace SH:=Aside0.mk (SH.out.below hb)
 replace HV:=Aside0.mk (below_step HV.out hb)
 clear hb
 go_wp2_with (fail)
 go_at_call 15
 refine (rsrow_calls NU.out.told NU.out.each RE.out.here.2 RF.out.here.2).mono ?_
 rintro e_ v6 ⟨rfl,hb⟩
 replace RJ:=Aside0.mk (RJ.out.below hb)
 replace UJ:=Aside0.mk (UJ.out.below hb)
 replace TJ:=Aside0.mk (TJ.out.below hb)
 replace SJ:=Aside0.mk (SJ.out.below hb)
 replace RB:=Aside0.mk (RB.out.below hb)
 replace SB:=Aside0.mk (SB.out.below hb)
 replace RC:=Aside0.mk (RC.out.below hb)
 replace SC:=Aside0.mk (SC.out.below hb)
 replace RD:=Aside0.mk (RD.out.below hb)
 replace SD:=Aside0.mk (SD.out.below hb)
 replace RE:=Aside0.mk (RE.out.below hb)
 replace UE:=Aside0.mk (UE.out.below hb)
 replace TE:=Aside0.mk (TE.out.below hb)
 replace SE:=Aside0.mk (SE.out.below hb)
 replace RF:=Aside0.mk (RF.out.below hb)
 replace SF:=Aside0.mk (SF.out.below hb)
 replace RG:=Aside0.mk (RG.out.below hb)
 replace SG:=Aside0.mk (SG.out.below hb)
 replace RH:=Aside0.mk (RH.out.below hb)
 replace SH:=Aside0.mk (SH.out.below hb)
 replace HV:=Aside0.mk (below_step HV.out hb)
 clear hb
 obtain ⟨r0_0,r0_1,r0_2,r0_3,r0_4,r0_5,r0_6,r0_7,r0_8⟩:=cells9 SG.out.here
 obtain ⟨r1_0,r1_1,r1_2,r1_3,r1_4,r1_5,r1_6,r1_7,r1_8⟩:=cells9 SH.out.here
 go_wp2_with (fail)
 clear r0_0 r0_1 r0_2 r0_3 r0_4 r0_5 r0_6 r0_7 r0_8 r1_0 r1_1 r1_2 r1_3 r1_4 r1_5 r1_6 r1_7 r1_8
 go_at_call 14
 refine (rs24_calls NY.out.few RG.out.here RH.out.here).mono ?_
 rintro e_ v7 ⟨rfl,hb⟩
 replace RJ:=Aside0.mk (RJ.out.below hb)
 replace UJ:=Aside0.mk (UJ.out.below hb)
 replace TJ:=Aside0.mk (TJ.out.below hb)
 replace SJ:=Aside0.mk (SJ.out.below hb)
 replace RB:=Aside0.mk (RB.out.below hb)
 replace SB:=Aside0.mk (SB.out.below hb)
 replace RC:=Aside0.mk (RC.out.below hb)
 replace SC:=Aside0.mk (SC.out.below hb)
 replace RD:=Aside0.mk (RD.out.below hb)
 replace SD:=Aside0.mk (SD.out.below hb)
 replace RE:=Aside0.mk (RE.out.below hb)
 replace UE:=Aside0.mk (UE.out.below hb)
 replace TE:=Aside0.mk (TE.out.below hb)
 replace SE:=Aside0.mk (SE.out.below hb)
 replace RF:=Aside0.mk (RF.out.below hb)
 replace SF:=Aside0.mk (SF.out.below hb)
 replace RG:=Aside0.mk (RG.out.below hb)
 replace SG:=Aside0.mk (SG.out.below hb)
 replace RH:=Aside0.mk (RH.out.below hb)
 replace SH:=Aside0.mk (SH.out.below hb)
 replace HV:=Aside0.mk (below_step HV.out hb)
 clear hb
 have r6:=(cells9 SJ.out.here).2.2.2.2.2.2.1
 go_wp2_with (fail)
 clear r6
 obtain ⟨ra,hra,hra2⟩:=SpecT.smudge_of a.log NA.out.few.log K (by have:=HK.out;have:=NA.out.few.log;omega)
 go_at_call 16
 refine (sextonlaw24_smudge.calls K PJ_ (.slice J6 a.log.length j6_) a.log ra V v7 HV.out UJ.out.here hra).mono ?_
 rintro e_ s1 ⟨rfl,h1,hb,hk⟩
 have SE1:=Aside0.mk ((hk.2 gE (blk_lt SE.out.here) XE.out.2.2).trans SE.out.here)
 have UE1:=Aside0.mk (Kd.R_kept UE.out.here hk XE.out.1)
 have TJ1:=Aside0.mk (Kd.S_step TJ.out.here (w1:=s1) (fun k h hl=>hk.2 k hl (fun h2=>DJ.out.1 k h2 h)))
 replace HV:=Aside0.mk hb
 clear h1 hb hk hra hra2 RJ UJ TJ SJ RB SB RC SC RD SD RE UE TE SE RF SF RG SG RH SH
 have r6:=(cells9 SE1.out).2.2.2.2.2.2.1
 go_wp2_with (fail)
 clear r6
 obtain ⟨rb,hrb,hrb2⟩:=SpecT.smudge_of u.log NU.out.few.log K (by have:=HK.out;have:=NU.out.few.log;omega)
 go_at_call 16
 refine (sextonlaw24_smudge.calls K PE_ (.slice E6 u.log.length e6_) u.log rb V s1 HV.out UE1.out hrb).mono ?_
 rintro e_ s2 ⟨rfl,h1,hb,hk⟩
 replace TJ1:=Aside0.mk (Kd.S_step TJ1.out (w1:=s2) (fun k h hl=>hk.2 k hl (XE.out.2.1 k h)))
 replace HV:=Aside0.mk hb
 clear h1 hb hk hrb hrb2 UE1 SE1
 obtain ⟨ad,f,hax,hsm⟩:=SmZ.ex TJ1.out NA.out.each
 have HAX:=Aside0.mk hax
 have HX:=Aside0.mk hsm
 clear hax hsm TJ1
 go_wp2_with (fail)
 go_loopg [35] (a.told.length) (fun kq v35 w'=>∃ (j:Int),v35=.int .i64 j∧Aside0 (0≤j∧j≤a.told.length∧(kq:Int)=a.told.length - j)∧Aside0 (SmZ V.heap.size w' ad f a.told.length)∧Aside0 (Below V.heap.size V w'))
 case atStart=>exact ⟨0,rfl,⟨by omega,by omega,by omega⟩,HX,HV⟩
 case round =>
  clear HX HV
  obtain ⟨j,rfl,HI,HX,HV⟩:=hrel
  by_cases c2:j < (a.told.length:Int)
  ·have c2b0:decide (j < (a.told.length:Int))=true:=decide_eq_true c2
   obtain rfl:=HAX.out (by have:=HI.out.1;omega)
   have hi0:=HI.out.1
   obtain ⟨AA,cc,r,hcell,hrl,hR,hlt⟩:=HX.out j.toNat (by omega)
   obtain ⟨r',hfr,hrl'⟩:=SpecT.smudge_of r hrl K (by have:=HK.out;omega)
   have HR:=Aside0.mk hR
   have HC:=Aside0.mk hcell
   have HFR:=Aside0.mk hfr
   have HLR:=Aside0.mk (And.intro hrl hrl')
   have HLT:=Aside0.mk c2
   clear hR hfr hrl hrl' hlt c2
   replace hi0:=eq_true hi0
   have hi1:=eq_true HLT.out
   go_wp2_with (fail)
   go_at_call 16
   refine (sextonlaw24_smudge.calls K (fun k=>k≠ad.block∧f k=j.toNat) (.slice AA r.length cc) r r' V wr HV.out HR.out HFR.out).mono ?_
   rintro e_ w19 ⟨rfl,h1,hb,hk⟩
   replace HX:=Aside0.mk (SmZ.smudged HX.out (show j.toNat < a.told.length by have:=HLT.out;have:=HI.out.1;omega) HC.out HLR.out.1 HR.out h1 HLR.out.2 hk)
   replace HV:=Aside0.mk hb
   clear h1 hb hk hcell
   go_wp2_with (fail)
   go_roundg (gk - 1)
   case measure=>have:=HI.out.2.2;have:=HLT.out;omega
   case rel=>exact ⟨wrap64 (j+1),by first | rfl | (simp;done) | (simp [*];done),⟨by have:=HI.out;have:=HLT.out;have:=NA.out.told;unfold wrap64;omega⟩,HX,HV⟩
  ·have c2b0:decide (j < (a.told.length:Int))=false:=decide_eq_false c2
   clear c2
   go_wp2_with (fail)
   clear HX HI HAX
   go_at_call 17
   refine (new_stays QN.out NZ.out.fits wr).mono ?_
   rintro e_ n1 ⟨N6,n6,N7,n7,N8,n8,rfl,hS,hb⟩
   replace HV:=Aside0.mk (below_alloc (below_step HV.out hb) (.cells #[.int .i64 z.id,.int .i64 z.n,.int .i64 z.view,.int .i64 z.last,.bool z.works,.int .i64 z.commit,.slice N6 z.log.length n6,.slice N7 z.acks.length n7,.slice N8 z.votes.length n8] 26))
   have RN:=Aside0.mk (hS.alloc (.cells #[.int .i64 z.id,.int .i64 z.n,.int .i64 z.view,.int .i64 z.last,.bool z.works,.int .i64 z.commit,.slice N6 z.log.length n6,.slice N7 z.acks.length n7,.slice N8 z.votes.length n8] 26))
   have SN:=Aside0.mk (Stays.new n1 (.cells #[.int .i64 z.id,.int .i64 z.n,.int .i64 z.view,.int .i64 z.last,.bool z.works,.int .i64 z.commit,.slice N6 z.log.length n6,.slice N7 z.acks.length n7,.slice N8 z.votes.length n8] 26))
   clear hS hb
   go_wp2_with (fail)
   generalize (n1.alloc (.cells #[.int .i64 z.id,.int .i64 z.n,.int .i64 z.view,.int .i64 z.last,.bool z.works,.int .i64 z.commit,.slice N6 z.log.length n6,.slice N7 z.acks.length n7,.slice N8 z.votes.length n8] 26))=W17 at RN SN HV ⊢
   generalize n1.heap.size=gN at SN ⊢
   go_at_call 18
   refine (rnew_stays QN.out NZ.out.fits W17).mono ?_
   rintro e_ n2 ⟨P6,p6_,P7,p7_,P8,p8_,rfl,hS,hb⟩
   replace RN:=Aside0.mk ((RN.out.below hb).alloc (.cells #[.int .i64 z.id,.int .i64 z.n,.int .i64 z.view,.int .i64 z.last,.bool z.works,.int .i64 z.commit,.slice P6 z.log.length p6_,.slice P7 z.acks.length p7_,.slice P8 z.votes.length p8_] 26))
   replace SN:=Aside0.mk ((SN.out.below hb).alloc (.cells #[.int .i64 z.id,.int .i64 z.n,.int .i64 z.view,.int .i64 z.last,.bool z.works,.int .i64 z.commit,.slice P6 z.log.length p6_,.slice P7 z.acks.length p7_,.slice P8 z.votes.length p8_] 26))
   replace HV:=Aside0.mk (below_alloc (below_step HV.out hb) (.cells #[.int .i64 z.id,.int .i64 z.n,.int .i64 z.view,.int .i64 z.last,.bool z.works,.int .i64 z.commit,.slice P6 z.log.length p6_,.slice P7 z.acks.length p7_,.slice P8 z.votes.length p8_] 26))
   have RP:=Aside0.mk (hS.alloc (.cells #[.int .i64 z.id,.int .i64 z.n,.int .i64 z.view,.int .i64 z.last,.bool z.works,.int .i64 z.commit,.slice P6 z.log.length p6_,.slice P7 z.acks.length p7_,.slice P8 z.votes.length p8_] 26))
   have SP:=Aside0.mk (Stays.new n2 (.cells #[.int .i64 z.id,.int .i64 z.n,.int .i64 z.view,.int .i64 z.last,.bool z.works,.int .i64 z.commit,.slice P6 z.log.length p6_,.slice P7 z.acks.length p7_,.slice P8 z.votes.length p8_] 26))
   clear hS hb
   go_wp2_with (fail)
   generalize (n2.alloc (.cells #[.int .i64 z.id,.int .i64 z.n,.int .i64 z.view,.int .i64 z.last,.bool z.works,.int .i64 z.commit,.slice P6 z.log.length p6_,.slice P7 z.acks.length p7_,.slice P8 z.votes.length p8_] 26))=W18 at RN SN RP SP HV ⊢
   generalize n2.heap.size=gP at SP ⊢
   replace HV:=Aside0.mk (show Below V.heap.size V W18.drew from below_drew_any HV.out)
   replace RN:=Aside0.mk (RN.out.below (W1:=W18.drew) (below_drew_any (Below.refl W18.heap.size W18)))
   replace SN:=Aside0.mk (SN.out.below (W1:=W18.drew) (below_drew_any (Below.refl W18.heap.size W18)))
   replace RP:=Aside0.mk (RP.out.below (W1:=W18.drew) (below_drew_any (Below.refl W18.heap.size W18)))
   replace SP:=Aside0.mk (SP.out.below (W1:=W18.drew) (below_drew_any (Below.refl W18.heap.size W18)))
   go_region_law (first | (refine x_step_call rfl Tryz.func19 (by kernel_rfl) rfl #[] rfl (by simp [Act.eval,Act.put]) ?_;refine (worked_calls _).mono ?_;rintro e_ y1 ⟨rfl,hb⟩;replace RN:=Aside0.mk (RN.out.below hb);replace SN:=Aside0.mk (SN.out.below hb);replace RP:=Aside0.mk (RP.out.below hb);replace SP:=Aside0.mk (SP.out.below hb);replace HV:=Aside0.mk (below_step HV.out hb);clear hb;obtain ⟨na0,na1,na2,na3,na4,na5,na6,na7,na8⟩:=cells9 (SN.out).here;obtain ⟨pa0,pa1,pa2,pa3,pa4,pa5,pa6,pa7,pa8⟩:=cells9 (SP.out).here;refine ⟨_,rfl,?_⟩) | (refine x_step_callw (by rfl) Tryz.func14 (by kernel_rfl) rfl #[.agg #[.int .i64 z.id,.int .i64 z.n,.int .i64 z.view,.int .i64 z.last,.bool z.works,.int .i64 z.commit,.slice N6 z.log.length n6,.slice N7 z.acks.length n7,.slice N8 z.votes.length n8],.agg #[.int .i64 z.id,.int .i64 z.n,.int .i64 z.view,.int .i64 z.last,.bool z.works,.int .i64 z.commit,.slice P6 z.log.length p6_,.slice P7 z.acks.length p7_,.slice P8 z.votes.length p8_]] rfl (by simp [Act.eval,Act.put]) ?_;refine (rs24_calls (w:=y1) NZ.out.few RN.out.here RP.out.here).mono ?_;rintro e_ y2 ⟨rfl,hb⟩;clear SN SP RN RP;replace HV:=Aside0.mk (below_step HV.out hb);clear hb;obtain ⟨xa0,xa1,xa2,xa3,xa4,xa5,xa6,xa7,xa8⟩:=cells9 (SX.out.below HV.out).here;obtain ⟨oa0,oa1,oa2,oa3,oa4,oa5,oa6,oa7,oa8⟩:=cells9 (SO.out.below HV.out).here;refine ⟨_,rfl,?_⟩) | (refine x_step_callw (by rfl) Tryz.func20 (by kernel_rfl) rfl #[.agg #[.int .i64 x.id,.int .i64 x.n,.int .i64 x.view,.int .i64 x.last,.bool x.works,.int .i64 x.commit,.slice A6 x.log.length c6,.slice A7 x.acks.length c7,.slice A8 x.votes.length c8]] rfl (by simp [Act.eval,Act.put]) ?_;refine (is_stays (w:=y2) rfl (AX.out.below HV.out).here).mono ?_;rintro e_ y3 ⟨rfl,hb⟩;replace HV:=Aside0.mk (below_step HV.out hb);clear hb;obtain ⟨ob0,ob1,ob2,ob3,ob4,ob5,ob6,ob7,ob8⟩:=cells9 (SO.out.below HV.out).here;refine ⟨_,rfl,?_⟩) | (refine x_step_callw (by rfl) Tryz.func21 (by kernel_rfl) rfl #[.agg #[.int .i64 x.id,.int .i64 x.n,.int .i64 x.view,.int .i64 x.last,.bool x.works,.int .i64 x.commit,.slice O6 x.log.length o6,.slice O7 x.acks.length o7,.slice O8 x.votes.length o8]] rfl (by simp [Act.eval,Act.put]) ?_;refine (ris_stays (w:=y3) rfl FX.out (AO.out.below HV.out).here).mono ?_;rintro e_ y4 ⟨rfl,hb⟩;replace HV:=Aside0.mk (below_step HV.out hb);clear hb;obtain ⟨xc0,xc1,xc2,xc3,xc4,xc5,xc6,xc7,xc8⟩:=cells9 (SX.out.below HV.out).here;obtain ⟨oc0,oc1,oc2,oc3,oc4,oc5,oc6,oc7,oc8⟩:=cells9 (SO.out.below HV.out).here;refine ⟨_,rfl,?_⟩) | (refine x_step_callw (by rfl) Tryz.func14 (by kernel_rfl) rfl #[.agg #[.int .i64 x.id,.int .i64 x.n,.int .i64 x.view,.int .i64 x.last,.bool x.works,.int .i64 x.commit,.slice A6 x.log.length c6,.slice A7 x.acks.length c7,.slice A8 x.votes.length c8],.agg #[.int .i64 x.id,.int .i64 x.n,.int .i64 x.view,.int .i64 x.last,.bool x.works,.int .i64 x.commit,.slice O6 x.log.length o6,.slice O7 x.acks.length o7,.slice O8 x.votes.length o8]] rfl (by simp [Act.eval,Act.put]) ?_;refine (rs24_calls (w:=y4) FX.out (AX.out.below HV.out).here (AO.out.below HV.out).here).mono ?_;rintro e_ y5 ⟨rfl,hb⟩;replace HV:=Aside0.mk (below_step HV.out hb);clear hb;refine ⟨_,rfl,?_⟩))
   all_goals
    go_wp2_with (fail)
    go_ret
    exact ⟨rfl,below_step HB.out HV.out⟩
end
end Go.Proofs.YtfpfpckocemmdaaGreat.P
