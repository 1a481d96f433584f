/- Part 9 of the walk. -/
import Derived.Test.YtfpfpckocemmdaaGreatCDoes08
set_option linter.unusedVariables false
set_option linter.unusedSimpArgs false
set_option maxHeartbeats 8000000
set_option maxRecDepth 100000
namespace Go.Proofs.YtfpfpckocemmdaaGreat.P
open Go.RowKit Go.Proofs.YtfpfpckocemmdaaGreatW.PrintWords Go.Proofs.YtfpfpckocemmdaaGreatW.PrintLast Go.Proofs.YtfpfpckocemmdaaGreatW.PrintMore
section
attribute [local go_sem] max2_int min2_int max_two min_two max_three min_three max_four min_four   -- for this text's walks alone
def replica_logged.f (k:Nat) (l0:List ByteArray) (a1:Int):Option (Bool):=(msg_Prepare.f 0 0 0 a1 l0).bind fun bt398=>((msg_Is.f k bt398.1 bt398.2.1 bt398.2.2.1 bt398.2.2.2.1 bt398.2.2.2.2.1 bt398.2.2.2.2.2.1 bt398.2.2.2.2.2.2.1 bt398.2.2.2.2.2.2.2).bind fun t408=>(some t408))
theorem replica_logged.calls (k:Nat) (A0:Option Addr) (c0:Nat) (l0:List ByteArray) (a1:Int) (r:Bool) (w:World) (hr0:Kd.C Kd.string w A0 l0.length l0) (hc0:l0.length≤c0) (h:replica_logged.f k l0 a1=some r) :
  Calls Tryz.prog 61 #[.slice A0 l0.length c0,a1] w fun e w'=>e=.returned r∧Below w.heap.size w w':=by
 have HR0:=sd hr0
 have HC0:=sd hc0
 clear hr0 hc0
 have HB:=sd (Below.refl w.heap.size w)
 have H:((msg_Prepare.f 0 0 0 a1 l0).bind fun bt398=>((msg_Is.f k bt398.1 bt398.2.1 bt398.2.2.1 bt398.2.2.2.1 bt398.2.2.2.2.1 bt398.2.2.2.2.2.1 bt398.2.2.2.2.2.2.1 bt398.2.2.2.2.2.2.2).bind fun t408=>(some t408)))=some r:=h
 clear h
 replace H:=Option.bind_eq_some_iff.mp H
 obtain ⟨⟨t398,t399,t400,t401,t402,t403,t404,t405⟩,A30,H⟩:=H
 replace H:((msg_Is.f k t398 t399 t400 t401 t402 t403 t404 t405).bind fun t408=>(some t408))=some r:=H
 have A3:=sd A30
 clear A30
 replace H:=Option.bind_eq_some_iff.mp H
 obtain ⟨t408,A40,H⟩:=H
 replace H:(some t408)=some r:=H
 have A4:=sd A40
 clear A40
 obtain rfl:=Option.some.inj H
 go_enter Tryz.func61,Tryz.ntmps61
 go_wp2_with (first | ((with_reducible refine gate_callee (f:=70) rfl ?_);refine goesL_ (some 7) rfl rfl Tryz.func70 (by kernel_rfl) rfl #[.int .i64 0,.int .i64 0,.int .i64 0,a1,.slice A0 l0.length c0] rfl (by (try simp only [List.map_toArray,List.map_cons,List.map_nil]);rfl) ?_;(with_reducible refine (msg_Prepare.calls 0 0 0 a1 _ _ l0 t398 t399 t400 t401 t402 t403 t404 t405 _ ?side1 ?side2 A3.out).mono ?_);(case side1=>exact HR0.out);(case side2=>exact HC0.out);rintro e w5 ⟨v406,rfl,ho0,hb⟩;refine ⟨_,rfl,?_⟩;have HO407:=sd (Kd.R_lower ho0 (below_size HB.out));replace HB:=sd (below_step HB.out hb);(try clear hb);(try clear ho0);obtain ⟨Ao6,co6,eo6⟩:=Kd.R_slice HO407.out;subst eo6) | ((with_reducible refine gate_callee (f:=44) rfl ?_);refine goesL_ (some 8) rfl rfl Tryz.func44 (by kernel_rfl) rfl #[.agg #[t398,t399,t400,t401,t402,t403,t404,.slice Ao6 t405.length co6]] rfl (by (try simp only [List.map_toArray,List.map_cons,List.map_nil]);rfl) ?_;(with_reducible refine (msg_Is.calls k t398 t399 t400 t401 t402 t403 t404 _ _ t405 t408 _ ?side1 ?side2 A4.out).mono ?_);(case side1=>repeat ((exact (Kd.R_reads' HO407.out).2.2)));(case side2=>exact (Kd.R_reads' HO407.out).2.1);rintro e w7 ⟨rfl,hb⟩;refine ⟨_,rfl,?_⟩;replace HO407:=sd (Kd.R_below HO407.out hb);replace HB:=sd (below_step HB.out hb);(try clear hb)))
 go_ret
 exact ⟨by rfl,HB.out⟩
def quorum_vote_own.f (a0_0:Int) (a0_1:Int) (a0_2:Int) (l0_3:List ByteArray):Option (Int×Int×Int×List ByteArray):=if l0_3.length < 4398046511104 then some (a0_0,a0_1,a0_2,l0_3) else none
theorem quorum_vote_own.calls (a0_0:Int) (a0_1:Int) (a0_2:Int) (A0_3:Option Addr) (c0_3:Nat) (l0_3:List ByteArray) (r1:Int) (r2:Int) (r3:Int) (r4:List ByteArray) (w:World) (hr0_3:Kd.C Kd.string w A0_3 l0_3.length l0_3) (hc0_3:l0_3.length≤c0_3) (h:quorum_vote_own.f a0_0 a0_1 a0_2 l0_3=some (r1,r2,r3,r4)) :
  Calls Tryz.prog 85 #[.agg #[a0_0,a0_1,a0_2,.slice A0_3 l0_3.length c0_3]] w fun e w'=>∃ v3_:Value,e=.returned (.agg #[r1,r2,r3,v3_])∧Kd.R Kd.string 9 w' w.heap.size (fun _=>True) v3_ r4∧Below w.heap.size w w':=by
 have hu63:=Tryz.underlying63
 have hu95:=Tryz.underlying95
 have hu22:=Tryz.underlying22
 have hu9:=Tryz.underlying9
 unfold quorum_vote_own.f at h
 split at h
 case isFalse=>cases h
 rename_i hl
 injection h with h
 injection h with h1 h
 injection h with h2 h
 injection h with h3 h
 subst h1;subst h2;subst h3;subst h
 have HR:=sd hr0_3
 have HL:=sd hl
 have HC:=sd hc0_3
 clear hr0_3 hc0_3 hl
 have hm:∀ W:World,(Instr.makeSlice 22 (l0_3.length:Int) (l0_3.length:Int)).run Tryz.prog W=.ok (.slice (some ⟨W.heap.size,0,none⟩) l0_3.length l0_3.length) (W.alloc (.cells (madeCells (Value.string ⟨#[]⟩).cells l0_3.length) 9)):=fun W=>by
  obtain ⟨i,hi,hz,hs,hb⟩:=info_parts info9
  have h:=run_make (P:=Tryz.prog) W 22 9 i (.string ⟨#[]⟩) hu22 hi hz .i64 .i64 (l0_3.length:Int) (l0_3.length:Int) (by omega) (by omega) (by have:=HL.out;rw [hb];omega) (by have:=HL.out;omega)
  simp only [Int.toNat_natCast,hs,Nat.mul_one] at h
  exact h
 have hcp:∀ o1 o2:Obj,(Builtin.copy_ #[22,22] 3 #[.slice (some ⟨w.heap.size+1+1,0,none⟩) l0_3.length l0_3.length,.slice A0_3 l0_3.length c0_3]).run Tryz.prog (((w.alloc o1).alloc o2).alloc (.cells (madeCells (Value.string ⟨#[]⟩).cells l0_3.length) 9))=.ok (l0_3.length:Int) (((w.alloc o1).alloc o2).alloc (.cells (l0_3.map Value.string).toArray 9)):=fun o1 o2=>by
  obtain ⟨i,hi,hz,hs,hb⟩:=info_parts info9
  have h:=x_copy_fresh (P:=Tryz.prog) Value.string (⟨#[]⟩:ByteArray) (fun _=>rfl) ((w.alloc o1).alloc o2) 22 22 3 9 9 hu22 (by rw [hi];simp [hs]) A0_3 l0_3.length c0_3 (madeCells (Value.string ⟨#[]⟩).cells l0_3.length) (size_madeCells _ _) l0_3 (Kd.C_alloc (Kd.C_alloc (Kd.C_alloc HR.out _) _) _)
  have hsz:((w.alloc o1).alloc o2).heap.size=w.heap.size+1+1:=by simp
  rw [hsz] at h
  exact h
 have hln:l0_3.length≤maxLen:=by have:=HL.out;simp [maxLen];omega
 generalize hcs:(l0_3.map Value.string).toArray=cs at *
 generalize hn:l0_3.length=n at *
 generalize hc:madeCells (Value.string ⟨#[]⟩).cells n=mc at *
 go_enter Tryz.func85,Tryz.ntmps85
 go_wp2
 refine bodyPost_ret (results_cell_row rfl _ _ (w.heap.size+1) 63 #[a0_0,a0_1,a0_2,.slice (some ⟨w.heap.size+1+1,0,none⟩) n n] (0,0) _ rfl ?_ Tryz.underlying63 rfl (by kernel_rfl)) rfl ?_
 ·have h1:=Below.heap_alloc (((w.alloc (.cells #[a0_0,a0_1,a0_2,.slice (some ⟨w.heap.size+1+1,0,none⟩) n n] 95)).alloc (.cells #[a0_0,a0_1,a0_2,.slice (some ⟨w.heap.size+1+1,0,none⟩) n n] 63))) (.cells cs 9) (w.heap.size+1) (by simp)
  refine h1.trans ?_
  have h2:=x_alloc_new (w.alloc (.cells #[a0_0,a0_1,a0_2,.slice (some ⟨w.heap.size+1+1,0,none⟩) n n] 95)) (.cells #[a0_0,a0_1,a0_2,.slice (some ⟨w.heap.size+1+1,0,none⟩) n n] 63)
  simpa using h2
 subst hn
 refine ⟨_,rfl,x_R_scalar Value.string (fun _=>rfl) 9 _ w.heap.size _ (w.heap.size+1+1) l0_3 (by omega) ?_ hln trivial,?_⟩
 ·rw [hcs]
  have h:=x_alloc_new ((w.alloc (.cells #[a0_0,a0_1,a0_2,.slice (some ⟨w.heap.size+1+1,0,none⟩) l0_3.length l0_3.length] 95)).alloc (.cells #[a0_0,a0_1,a0_2,.slice (some ⟨w.heap.size+1+1,0,none⟩) l0_3.length l0_3.length] 63)) (.cells cs 9)
  simpa using h
 ·exact below_alloc (below_alloc (below_alloc (Below.refl _ _) _) _) _
def quorum_Add.l0:Nat→List (S63)→List (S63)→Int→Int→Int→Int→Int→List ByteArray→Option ((List (S63)))
 | 0,_,_,_,_,_,_,_,_=>none
 | k+1,x5,x8,x9,x10,x410000,x410001,x410002,x410003=>if x10 < x9 then (if 0≤x10 then (if x10 < (x8.length:Int) then (if ((rd_T63 x8 x10).f0)=x410000 then (quorum_Add.l0 k x5 x8 x9 (wrap64 (x10+1)) x410000 x410001 x410002 x410003) else ((quorum_vote_own.f ((rd_T63 x8 x10).f0) ((rd_T63 x8 x10).f1) ((rd_T63 x8 x10).f2) ((rd_T63 x8 x10).f3)).bind fun bt412=>(if x5.length < 2932031007402 then (quorum_Add.l0 k (x5++[(⟨bt412.1,bt412.2.1,bt412.2.2.1,bt412.2.2.2⟩:S63)]) x8 x9 (wrap64 (x10+1)) x410000 x410001 x410002 x410003) else (none)))) else (none)) else (none)) else ((quorum_vote_own.f x410000 x410001 x410002 x410003).bind fun bt421=>(if x5.length < 2932031007402 then (some (x5++[(⟨bt421.1,bt421.2.1,bt421.2.2.1,bt421.2.2.2⟩:S63)])) else (none)))
def quorum_Add.f (k:Nat) (l0:List (S63)) (a1_0:Int) (a1_1:Int) (a1_2:Int) (l1_3:List ByteArray):Option ((List (S63))):=quorum_Add.l0 k ([]:List (S63)) l0 (l0.length:Int) 0 a1_0 a1_1 a1_2 l1_3
theorem quorum_Add.calls (k:Nat) (A0:Option Addr) (c0:Nat) (l0:List (S63)) (a1_0:Int) (a1_1:Int) (a1_2:Int) (A1_3:Option Addr) (c1_3:Nat) (l1_3:List ByteArray) (r:List (S63)) (w:World) (hr0:Kd.C k63 w A0 l0.length l0) (hc0:l0.length≤c0) (hr1_3:Kd.C Kd.string w A1_3 l1_3.length l1_3) (hc1_3:l1_3.length≤c1_3) (h:quorum_Add.f k l0 a1_0 a1_1 a1_2 l1_3=some r) :
  Calls Tryz.prog 53 #[.slice A0 l0.length c0,.agg #[a1_0,a1_1,a1_2,.slice A1_3 l1_3.length c1_3]] w fun e w'=>∃ v0_:Value,e=.returned (v0_)∧Kd.S k63 63 w' w.heap.size (fun _=>True) v0_ r∧Below w.heap.size w w':=by
 have hu63:=Tryz.underlying63
 have HR0:=sd hr0
 have HC0:=sd hc0
 clear hr0 hc0
 have HR1_3:=sd hr1_3
 have HC1_3:=sd hc1_3
 clear hr1_3 hc1_3
 have HB:=sd (Below.refl w.heap.size w)
 have H:(quorum_Add.l0 k ([]:List (S63)) l0 (l0.length:Int) 0 a1_0 a1_1 a1_2 l1_3)=some r:=h
 clear h
 have H':=sd H
 clear H
 go_enter Tryz.func53,Tryz.ntmps53
 go_wp2_with (((with_reducible refine gate_dst (N:=3) rfl ?_);refine box_event ?hg (N:=3) ?hd (cs:=#[a1_0,a1_1,a1_2,.slice A1_3 l1_3.length c1_3]) (t:=63) ?hr ?_;(case hd=>rfl);(case hg=>rfl);(case hr=>(go_simp;done));intro gb409 hg w3 hbox hb;have BK409:=sd (hbox);have GW409:=sd ((by rw [hg];exact (below_size HB.out):w.heap.size≤gb409));have GE409:=sd ((by rw [hg];exact (below_size HB.out):w.heap.size≤gb409));replace HB:=sd (below_step HB.out hb);clear hb hbox hg))
 go_loopg [5,10] k (fun kq v5 v10 w'=>∃ (x5_1:List (S63)) (x10_1:Int),v10=.int .i64 x10_1∧Aside0 (quorum_Add.l0 kq x5_1 l0 (l0.length:Int) x10_1 a1_0 a1_1 a1_2 l1_3=some r)∧Aside0 (kq≤k)∧Aside0 (Kd.S k63 63 w' w.heap.size (fun k_=>k_≠gb409) v5 x5_1)∧Aside0 (w'.heap[gb409]?=some (.cells #[a1_0,a1_1,a1_2,(.slice A1_3 l1_3.length c1_3)] 63 (0,0)))∧Aside0 (Below w.heap.size w w'))
 case atStart=>exact ⟨(([]:List (S63))),(0),(by rfl),H',⟨Nat.le_refl _⟩,⟨by (exact Kd.S_nil _ _ _ _ _)⟩,⟨by (with_reducible repeat (fail));exact BK409.out⟩,⟨HB.out⟩⟩
 case round =>
  clear H'
  obtain ⟨x5_1,x10_1,rfl,HA,HK1,HO_5,BK409,HB⟩:=hrel
  cases gk with
  | zero=>exact absurd HA.out (by simp [quorum_Add.l0])
  | succ k1 =>
   have H:=HA.out
   clear HA
   simp only [quorum_Add.l0] at H
   by_cases c4:x10_1 < (l0.length:Int)
   ·rw [if_pos c4] at H
    have c4b0:decide (x10_1 < (l0.length:Int))=true:=decide_eq_true c4
    clear c4
    by_cases c5:0≤x10_1
    ·rw [if_pos c5] at H
     have c5b0:decide (0≤x10_1)=true:=decide_eq_true c5
     clear c5
     by_cases c6:x10_1 < (l0.length:Int)
     ·rw [if_pos c6] at H
      have c6b0:decide (x10_1 < (l0.length:Int))=true:=decide_eq_true c6
      clear c6
      by_cases c7:((rd_T63 l0 x10_1).f0)=a1_0
      ·rw [if_pos c7] at H
       have c7b0:(((rd_T63 l0 x10_1).f0)==a1_0)=true:=beq_iff_eq.mpr c7
       have c7b1:(((rd_T63 l0 x10_1).f0) != a1_0)=false:=bne_eq_false_iff_eq.mpr c7
       clear c7
       have H':=sd H
       clear H
       have p410:0≤(x10_1:Int):=of_decide_eq_true (by (with_reducible assumption))
       have q410:x10_1 < (l0.length:Int):=of_decide_eq_true (by (with_reducible assumption))
       obtain ⟨ad410,A410_3,c410_3,e410,hx410_0,hx410_1,hx410_2,hx410_3,hl410_3,hi410_3⟩:=at_T63 HR0.out x10_1 p410 q410
       cases e410
       replace hx410_0:=(HB.out.cell (World.block_lt_of_cell? w _ hx410_0)).trans hx410_0
       replace hx410_1:=(HB.out.cell (World.block_lt_of_cell? w _ hx410_1)).trans hx410_1
       replace hx410_2:=(HB.out.cell (World.block_lt_of_cell? w _ hx410_2)).trans hx410_2
       replace hx410_3:=(HB.out.cell (World.block_lt_of_cell? w _ hx410_3)).trans hx410_3
       have HR410_3:=sd hi410_3
       have HC410_3:=sd hl410_3
       clear hi410_3 hl410_3
       replace p410:=eq_true p410
       replace q410:=eq_true q410
       go_wp2_with (((with_reducible refine gate_dst (N:=7) rfl ?_);refine box_event ?hg (N:=7) ?hd (cs:=#[.int .i64 0,.int .i64 0,.int .i64 0,.slice none 0 0]) (t:=63) ?hr ?_;(case hd=>rfl);(case hg=>rfl);(case hr=>(go_simp;done));intro gb411 hg w8 hbox hb;replace HO_5:=sd (Kd.S_below (Kd.S_elderB HO_5.out gb411 (Nat.le_of_eq hg.symm)) hb);have BK411:=sd (hbox);have GW411:=sd ((by rw [hg];exact (below_size HB.out):w.heap.size≤gb411));have GE411:=sd ((by rw [hg];exact (below_size HB.out):w.heap.size≤gb411));replace HB:=sd (below_step HB.out hb);have NB409_411:=sd ((by rw [hg];exact Nat.ne_of_lt (blk_lt BK409.out):gb409≠gb411));have NB411_409:=sd ((by rw [hg];exact Nat.ne_of_gt (blk_lt BK409.out):gb411≠gb409));replace BK409:=sd (blk_below BK409.out hb);clear hb hbox hg;have hnb9:=NB411_409.out;have hnc9:=NB409_411.out;obtain ⟨hcz10_0,hcz10_1,hcz10_2,hcz10_3⟩:=cells4 BK411.out;have hfz10:=fr_of BK411.out;obtain ⟨hcz11_0,hcz11_1,hcz11_2,hcz11_3⟩:=cells4 BK409.out;have hfz11:=fr_of BK409.out))
       go_roundg k1
       case measure=>have:=HK1.out;omega
       case rel=>exact ⟨(x5_1),(wrap64 (x10_1+1)),(by rfl),H',⟨by have:=HK1.out;omega⟩,⟨by (with_reducible repeat (fail));exact Kd.S_mono (Kd.S_far (p:=⟨gb411,3,none⟩) (Kd.S_far (p:=⟨gb411,2,none⟩) (Kd.S_far (p:=⟨gb411,1,none⟩) (Kd.S_far (p:=⟨gb411,0,none⟩) (Kd.S_mono HO_5.out (fun k_ hk=>(⟨hk,hk.2⟩:_∧k_≠gb411))) (fun _ hk=>hk.2) ((rd_T63 l0 x10_1).f0)) (fun _ hk=>hk.2) ((rd_T63 l0 x10_1).f1)) (fun _ hk=>hk.2) ((rd_T63 l0 x10_1).f2)) (fun _ hk=>hk.2) (.slice A410_3 ((rd_T63 l0 x10_1).f3).length c410_3)) (fun _ hk=>hk.1.1)⟩,⟨by (with_reducible repeat (fail));refine blk_far ?_ NB409_411.out _;(with_reducible repeat (fail));refine blk_far ?_ NB409_411.out _;(with_reducible repeat (fail));refine blk_far ?_ NB409_411.out _;(with_reducible repeat (fail));refine blk_far ?_ NB409_411.out _;(with_reducible repeat (fail));exact BK409.out⟩,⟨by repeat ((with_reducible first | exact HB.out | refine below_set ?_ GE411.out))⟩⟩
      ·rw [if_neg c7] at H
       have c7b0:(((rd_T63 l0 x10_1).f0)==a1_0)=false:=beq_eq_false_iff_ne.mpr c7
       have c7b1:(((rd_T63 l0 x10_1).f0) != a1_0)=true:=bne_iff_ne.mpr c7
       replace H:=Option.bind_eq_some_iff.mp H
       obtain ⟨⟨t412,t413,t414,t415⟩,A120,H⟩:=H
       replace H:(if x5_1.length < 2932031007402 then (quorum_Add.l0 k1 (x5_1++[(⟨t412,t413,t414,t415⟩:S63)]) l0 (l0.length:Int) (wrap64 (x10_1+1)) a1_0 a1_1 a1_2 l1_3) else (none))=some r:=H
       have A12:=sd A120
       clear A120
       by_cases c13:x5_1.length < 2932031007402
       ·rw [if_pos c13] at H
        have LMc13:=sd c13
        clear c13
        obtain ⟨y418,hy418⟩:∃ y_:List (S63),y_=(x5_1++[(⟨t412,t413,t414,t415⟩:S63)]):=⟨_,rfl⟩
        replace H:(quorum_Add.l0 k1 y418 l0 (l0.length:Int) (wrap64 (x10_1+1)) a1_0 a1_1 a1_2 l1_3)=some r:=by (rw [hy418];with_reducible exact H)
        have Ny418:=sd hy418
        clear hy418
        have H':=sd H
        clear H
        have p410:0≤(x10_1:Int):=of_decide_eq_true (by (with_reducible assumption))
        have q410:x10_1 < (l0.length:Int):=of_decide_eq_true (by (with_reducible assumption))
        obtain ⟨ad410,A410_3,c410_3,e410,hx410_0,hx410_1,hx410_2,hx410_3,hl410_3,hi410_3⟩:=at_T63 HR0.out x10_1 p410 q410
        cases e410
        replace hx410_0:=(HB.out.cell (World.block_lt_of_cell? w _ hx410_0)).trans hx410_0
        replace hx410_1:=(HB.out.cell (World.block_lt_of_cell? w _ hx410_1)).trans hx410_1
        replace hx410_2:=(HB.out.cell (World.block_lt_of_cell? w _ hx410_2)).trans hx410_2
        replace hx410_3:=(HB.out.cell (World.block_lt_of_cell? w _ hx410_3)).trans hx410_3
        have HR410_3:=sd hi410_3
        have HC410_3:=sd hl410_3
        clear hi410_3 hl410_3
        replace p410:=eq_true p410
        replace q410:=eq_true q410
        go_wp2_with (first | ((with_reducible refine gate_dst (N:=7) rfl ?_);refine box_event ?hg (N:=7) ?hd (cs:=#[.int .i64 0,.int .i64 0,.int .i64 0,.slice none 0 0]) (t:=63) ?hr ?_;(case hd=>rfl);(case hg=>rfl);(case hr=>(go_simp;done));intro gb411 hg w14 hbox hb;replace HO_5:=sd (Kd.S_below (Kd.S_elderB HO_5.out gb411 (Nat.le_of_eq hg.symm)) hb);have BK411:=sd (hbox);have GW411:=sd ((by rw [hg];exact (below_size HB.out):w.heap.size≤gb411));have GE411:=sd ((by rw [hg];exact (below_size HB.out):w.heap.size≤gb411));replace HB:=sd (below_step HB.out hb);have NB409_411:=sd ((by rw [hg];exact Nat.ne_of_lt (blk_lt BK409.out):gb409≠gb411));have NB411_409:=sd ((by rw [hg];exact Nat.ne_of_gt (blk_lt BK409.out):gb411≠gb409));replace BK409:=sd (blk_below BK409.out hb);clear hb hbox hg;have hnb15:=NB411_409.out;have hnc15:=NB409_411.out;obtain ⟨hcz16_0,hcz16_1,hcz16_2,hcz16_3⟩:=cells4 BK411.out;have hfz16:=fr_of BK411.out;obtain ⟨hcz17_0,hcz17_1,hcz17_2,hcz17_3⟩:=cells4 BK409.out;have hfz17:=fr_of BK409.out) | ((with_reducible refine gate_callee (f:=85) rfl ?_);refine goesL_ (some 21) rfl rfl Tryz.func85 (by kernel_rfl) rfl #[.agg #[((rd_T63 l0 x10_1).f0),((rd_T63 l0 x10_1).f1),((rd_T63 l0 x10_1).f2),.slice A410_3 ((rd_T63 l0 x10_1).f3).length c410_3]] rfl (by (try simp only [List.map_toArray,List.map_cons,List.map_nil]);rfl) ?_;(with_reducible refine (quorum_vote_own.calls ((rd_T63 l0 x10_1).f0) ((rd_T63 l0 x10_1).f1) ((rd_T63 l0 x10_1).f2) _ _ ((rd_T63 l0 x10_1).f3) t412 t413 t414 t415 _ ?side1 ?side2 A12.out).mono ?_);(case side1=>exact Kd.C_below HR410_3.out (by repeat ((with_reducible first | exact HB.out | refine below_set ?_ GE411.out))));(case side2=>exact HC410_3.out);rintro e w18 ⟨v416,rfl,ho0,hb⟩;refine ⟨_,rfl,?_⟩;replace HO_5:=sd (Kd.S_elder' (by (with_reducible repeat (fail));exact (Kd.S_mono (Kd.S_far (p:=⟨gb411,3,none⟩) (Kd.S_far (p:=⟨gb411,2,none⟩) (Kd.S_far (p:=⟨gb411,1,none⟩) (Kd.S_far (p:=⟨gb411,0,none⟩) (Kd.S_mono HO_5.out (fun k_ hk=>(⟨hk,hk.2⟩:_∧k_≠gb411))) (fun _ hk=>hk.2) ((rd_T63 l0 x10_1).f0)) (fun _ hk=>hk.2) ((rd_T63 l0 x10_1).f1)) (fun _ hk=>hk.2) ((rd_T63 l0 x10_1).f2)) (fun _ hk=>hk.2) (.slice A410_3 ((rd_T63 l0 x10_1).f3).length c410_3)) (fun _ h_=>h_.1))) (Kd.R_base ho0) hb);have HO417:=sd (Kd.R_lower ho0 (below_size (by repeat ((with_reducible first | exact HB.out | refine below_set ?_ GE411.out)))));replace BK409:=sd (blk_below (g:=gb409) (o:=.cells #[a1_0,a1_1,a1_2,.slice A1_3 l1_3.length c1_3] 63 (0,0)) (by (with_reducible repeat (fail));refine blk_far ?_ NB409_411.out _;(with_reducible repeat (fail));refine blk_far ?_ NB409_411.out _;(with_reducible repeat (fail));refine blk_far ?_ NB409_411.out _;(with_reducible repeat (fail));refine blk_far ?_ NB409_411.out _;(with_reducible repeat (fail));exact BK409.out) hb);replace BK411:=sd (blk_below (g:=gb411) (o:=.cells #[((rd_T63 l0 x10_1).f0),((rd_T63 l0 x10_1).f1),((rd_T63 l0 x10_1).f2),.slice A410_3 ((rd_T63 l0 x10_1).f3).length c410_3] 63 (0,0)) (by (with_reducible repeat (fail));refine blk_put (cs:=#[((rd_T63 l0 x10_1).f0),((rd_T63 l0 x10_1).f1),((rd_T63 l0 x10_1).f2),.slice none 0 0]) ?_ 3 _ rfl;(with_reducible repeat (fail));refine blk_put (cs:=#[((rd_T63 l0 x10_1).f0),((rd_T63 l0 x10_1).f1),.int .i64 0,.slice none 0 0]) ?_ 2 _ rfl;(with_reducible repeat (fail));refine blk_put (cs:=#[((rd_T63 l0 x10_1).f0),.int .i64 0,.int .i64 0,.slice none 0 0]) ?_ 1 _ rfl;(with_reducible repeat (fail));refine blk_put (cs:=#[.int .i64 0,.int .i64 0,.int .i64 0,.slice none 0 0]) ?_ 0 _ rfl;(with_reducible repeat (fail));exact BK411.out) hb);replace HB:=sd (below_step (by repeat ((with_reducible first | exact HB.out | refine below_set ?_ GE411.out))) hb);(try clear hb);(try clear ho0);obtain ⟨Ao20,co20,eo20⟩:=Kd.R_slice HO417.out;subst eo20) | ((with_reducible refine gate_builtin (b:=.append) (xs:=#[.tmp 19,.tmp 22]) rfl ?_);at_builtin;refine Kd.S_append k63 (w0:=w) w.heap.size rfl (.tmp 19) (.tmp 22) 24 63 (.agg #[(.int .i64 0),(.int .i64 0),(.int .i64 0),(.slice none 0 0)]) 48 rfl Tryz.underlying24 info63 rfl (by decide) (by omega) u5 x5_1 (⟨t412,t413,t414,t415⟩:S63) [.int .i64 t412,.int .i64 t413,.int .i64 t414,.slice Ao20 t415.length co20] (fun k_=>k_≠gb409∧k_≠gb411) (fun k_=>some k_=(.slice Ao20 t415.length co20:Value).ownBlock) rfl rfl ?aP (fun k_ hk_=>((Kd.R_mono (ok':=fun k_=>((fun k_=>k_≠gb409∧k_≠gb411)) k_∧some k_≠(u5:Value).ownBlock) (Kd.R_types (Kd.R_types (Kd.R_apart' (HO417.out) (Kd.S_typed HO_5.out) (by decide)) BK409.out (by decide)) BK411.out (by decide)) (fun k_ hk=>⟨⟨hk.1.2,hk.2⟩,hk.1.1.2⟩))).1 k_ hk_.symm) ?aF ?aO ?aB ?aS ?aL ?_;(case aP=>exact k63_mkM _ _ _ (⟨t412,t413,t414,t415⟩:S63) (Kd.R_mono (Kd.R_tight rfl (Kd.R_mono (ok':=fun k_=>((fun k_=>k_≠gb409∧k_≠gb411)) k_∧some k_≠(u5:Value).ownBlock) (Kd.R_types (Kd.R_types (Kd.R_apart' (HO417.out) (Kd.S_typed HO_5.out) (by decide)) BK409.out (by decide)) BK411.out (by decide)) (fun k_ hk=>⟨⟨hk.1.2,hk.2⟩,hk.1.1.2⟩))) (fun _ h_=>h_)));(case aB=>exact HB.out);(case aF=>exact (fun k_ hk=>⟨Kd.freshB (g:=gb409) (o:=.cells #[a1_0,a1_1,a1_2,.slice A1_3 l1_3.length c1_3] 63 (0,0)) BK409.out k_ hk,Kd.freshB (g:=gb411) (o:=.cells #[((rd_T63 l0 x10_1).f0),((rd_T63 l0 x10_1).f1),((rd_T63 l0 x10_1).f2),.slice A410_3 ((rd_T63 l0 x10_1).f3).length c410_3] 63 (0,0)) BK411.out k_ hk⟩));(case aO=>exact (by (with_reducible repeat (fail));exact Kd.S_mono HO_5.out (fun k_ hk=>⟨⟨hk.1.1,hk.1.2⟩,fun e_=>hk.2 e_⟩)));(case aS=>exact (below_size HB.out));(case aL=>have:=LMc13.out;omega);intro v419 w19 ho hb hg hat;rw [← Ny418.out] at ho;replace BK409:=sd (blk_grown (g:=gb409) (o:=.cells #[a1_0,a1_1,a1_2,.slice A1_3 l1_3.length c1_3] 63 (0,0)) BK409.out hg (Kd.S_away HO_5.out (fun _ hk=>hk.1.1)));replace BK411:=sd (blk_grown (g:=gb411) (o:=.cells #[((rd_T63 l0 x10_1).f0),((rd_T63 l0 x10_1).f1),((rd_T63 l0 x10_1).f2),.slice A410_3 ((rd_T63 l0 x10_1).f3).length c410_3] 63 (0,0)) BK411.out hg (Kd.S_away HO_5.out (fun _ hk=>hk.1.2)));replace HB:=sd (hb);have HO420:=sd (ho);clear HO_5 HO417;clear ho hb hg hat))
        go_roundg k1
        case measure=>have:=HK1.out;omega
        case rel=>exact ⟨(y418),(wrap64 (x10_1+1)),(by rfl),H',⟨by have:=HK1.out;omega⟩,⟨by (with_reducible repeat (fail));exact Kd.S_mono HO420.out (fun _ hk=>hk.1)⟩,⟨by (with_reducible repeat (fail));exact BK409.out⟩,⟨HB.out⟩⟩
       ·rw [if_neg c13] at H
        exact absurd H (by simp)
     ·rw [if_neg c6] at H
      exact absurd H (by simp)
    ·rw [if_neg c5] at H
     exact absurd H (by simp)
   ·rw [if_neg c4] at H
    have c4b0:decide (x10_1 < (l0.length:Int))=false:=decide_eq_false c4
    clear c4
    replace H:=Option.bind_eq_some_iff.mp H
    obtain ⟨⟨t421,t422,t423,t424⟩,A210,H⟩:=H
    replace H:(if x5_1.length < 2932031007402 then (some (x5_1++[(⟨t421,t422,t423,t424⟩:S63)])) else (none))=some r:=H
    have A21:=sd A210
    clear A210
    by_cases c22:x5_1.length < 2932031007402
    ·rw [if_pos c22] at H
     have LMc22:=sd c22
     clear c22
     obtain ⟨y427,hy427⟩:∃ y_:List (S63),y_=(x5_1++[(⟨t421,t422,t423,t424⟩:S63)]):=⟨_,rfl⟩
     replace H:(some y427)=some r:=by (rw [hy427];with_reducible exact H)
     have Ny427:=sd hy427
     clear hy427
     obtain rfl:=Option.some.inj H
     obtain ⟨hcz23_0,hcz23_1,hcz23_2,hcz23_3⟩:=cells4 BK409.out
     have hfz23:=fr_of BK409.out
     go_wp2_with (first | ((with_reducible refine gate_callee (f:=85) rfl ?_);refine goesL_ (some 27) rfl rfl Tryz.func85 (by kernel_rfl) rfl #[.agg #[a1_0,a1_1,a1_2,.slice A1_3 l1_3.length c1_3]] rfl (by (try simp only [List.map_toArray,List.map_cons,List.map_nil]);rfl) ?_;(with_reducible refine (quorum_vote_own.calls a1_0 a1_1 a1_2 _ _ l1_3 t421 t422 t423 t424 _ ?side1 ?side2 A21.out).mono ?_);(case side1=>exact (Kd.C_below HR1_3.out HB.out));(case side2=>exact HC1_3.out);rintro e w24 ⟨v425,rfl,ho0,hb⟩;refine ⟨_,rfl,?_⟩;replace HO_5:=sd (Kd.S_elder' HO_5.out (Kd.R_base ho0) hb);have HO426:=sd (Kd.R_lower ho0 (below_size HB.out));replace BK409:=sd (blk_below BK409.out hb);replace HB:=sd (below_step HB.out hb);(try clear hb);(try clear ho0);obtain ⟨Ao26,co26,eo26⟩:=Kd.R_slice HO426.out;subst eo26) | ((with_reducible refine gate_builtin (b:=.append) (xs:=#[.tmp 25,.tmp 28]) rfl ?_);at_builtin;refine Kd.S_append k63 (w0:=w) w.heap.size rfl (.tmp 25) (.tmp 28) 24 63 (.agg #[(.int .i64 0),(.int .i64 0),(.int .i64 0),(.slice none 0 0)]) 48 rfl Tryz.underlying24 info63 rfl (by decide) (by omega) u5 x5_1 (⟨t421,t422,t423,t424⟩:S63) [.int .i64 t421,.int .i64 t422,.int .i64 t423,.slice Ao26 t424.length co26] (fun k_=>k_≠gb409) (fun k_=>some k_=(.slice Ao26 t424.length co26:Value).ownBlock) rfl rfl ?aP (fun k_ hk_=>((Kd.R_mono (ok':=fun k_=>((fun k_=>k_≠gb409)) k_∧some k_≠(u5:Value).ownBlock) (Kd.R_types (Kd.R_apart' (HO426.out) (Kd.S_typed HO_5.out) (by decide)) BK409.out (by decide)) (fun k_ hk=>⟨hk.2,hk.1.2⟩))).1 k_ hk_.symm) ?aF ?aO ?aB ?aS ?aL ?_;(case aP=>exact k63_mkM _ _ _ (⟨t421,t422,t423,t424⟩:S63) (Kd.R_mono (Kd.R_tight rfl (Kd.R_mono (ok':=fun k_=>((fun k_=>k_≠gb409)) k_∧some k_≠(u5:Value).ownBlock) (Kd.R_types (Kd.R_apart' (HO426.out) (Kd.S_typed HO_5.out) (by decide)) BK409.out (by decide)) (fun k_ hk=>⟨hk.2,hk.1.2⟩))) (fun _ h_=>h_)));(case aB=>exact HB.out);(case aF=>exact (fun k_ hk=>Kd.freshB (g:=gb409) (o:=.cells #[a1_0,a1_1,a1_2,.slice A1_3 l1_3.length c1_3] 63 (0,0)) BK409.out k_ hk));(case aO=>exact (by (with_reducible repeat (fail));exact Kd.S_mono HO_5.out (fun k_ hk=>⟨hk.1,fun e_=>hk.2 e_⟩)));(case aS=>exact (below_size HB.out));(case aL=>have:=LMc22.out;omega);intro v428 w25 ho hb hg hat;rw [← Ny427.out] at ho;replace BK409:=sd (blk_grown (g:=gb409) (o:=.cells #[a1_0,a1_1,a1_2,.slice A1_3 l1_3.length c1_3] 63 (0,0)) BK409.out hg (Kd.S_away HO_5.out (fun _ hk=>hk.1)));replace HB:=sd (hb);have HO429:=sd (ho);clear HO_5 HO426;clear ho hb hg hat))
     go_ret
     exact ⟨_,by rfl,by (with_reducible repeat (fail));exact Kd.S_mono HO429.out (fun _ hk=>trivial),HB.out⟩
    ·rw [if_neg c22] at H
     exact absurd H (by simp)
def slices_Clone_int_int.f (l0:List Int):Option (List Int):=if l0.length < 4398046511104 then some l0 else none
theorem slices_Clone_int_int.calls (A0:Option Addr) (c0:Nat) (l0:List Int) (r:List Int) (w:World) (hr0:Kd.C (Kd.int .i64) w A0 l0.length l0) (hc0:l0.length≤c0) (h:slices_Clone_int_int.f l0=some r) :
  Calls Tryz.prog 67 #[.slice A0 l0.length c0] w fun e w'=>∃ v0_:Value,e=.returned (v0_)∧Kd.R (Kd.int .i64) 3 w' w.heap.size (fun _=>True) v0_ r∧Below w.heap.size w w':=by
 unfold slices_Clone_int_int.f at h
 split at h
 case isFalse=>cases h
 rename_i hl
 obtain rfl:=Option.some.inj h
 have HR:=sd hr0
 have HL:=sd hl
 have he:=x_eql_nil (P:=Tryz.prog) 23 3 Tryz.underlying23
 rcases A0 with _ | ad
 ·have h0:l0=[]:=List.eq_nil_of_length_eq_zero (by
   rcases Nat.eq_zero_or_pos l0.length with h | h
   ·exact h
   ·obtain ⟨ad,h,_⟩:=hr0.2.2 h
    cases h)
  subst h0
  clear hr0 h hl HR
  go_enter Tryz.func67,Tryz.ntmps67
  go_wp2
  go_ret
  exact ⟨_,rfl,Kd.R_nil _ _ _ _ _,Below.refl _ _⟩
 ·clear hr0 h hl
  go_enter Tryz.func67,Tryz.ntmps67
  go_wp2_with (((with_reducible refine gate_builtin (b:=.append) (xs:=#[.tmp 5,.tmp 6]) rfl ?_);at_builtin;refine Kd.R_append_rows (Kd.int .i64) (w0:=w) w.heap.size rfl (.tmp 5) (.tmp 6) 23 3 (.int .i64 0) 8 rfl Tryz.underlying23 info3 rfl (by decide) (by omega) (.slice (some ⟨w.heap.size,0,none⟩) 0 0) ([]:List Int) l0 _ _ _ (fun _=>True) (fun _=>False) rfl rfl ?aO ?aR (fun _ _ h=>h) (fun _ h=>h.elim) ?aF ?aB ?aS ?aL ?_;(case aR=>exact Kd.C_alloc HR.out _);(case aB=>exact below_alloc (Below.refl _ _) _);(case aF=>exact (fun _ _=>trivial));(case aO=>exact Kd.R_empty _ _ _ _ _ (Nat.le_refl _) trivial);(case aS=>exact (by simp));(case aL=>have:=HL.out;simp;omega);intro v1 w1 ho hb hg hat;have HO:=sd ho;have HB:=sd hb;clear ho hb hg hat))
  go_ret
  exact ⟨_,rfl,HO.out,HB.out⟩
def replica_New.f (a0:Int) (a1:Int):Option (Int×Int×Int×Int×Bool×Int×List ByteArray×List Int×(List (S63))×Int):=(replica_size.f a1).bind fun t431=>(if t431=true then (if a0 < 0 then (some (0,0,0,0,false,0,([]:List ByteArray),([]:List Int),([]:List (S63)),1)) else (if a0≥a1 then (some (0,0,0,0,false,0,([]:List ByteArray),([]:List Int),([]:List (S63)),1)) else (if 0≤a1 then (if (a1:Int).toNat≤35184372088832 then (some (a0,a1,0,0,true,0,([]:List ByteArray),(List.replicate (a1:Int).toNat 0),([]:List (S63)),0)) else (none)) else (none)))) else (some (0,0,0,0,false,0,([]:List ByteArray),([]:List Int),([]:List (S63)),1)))
theorem replica_New.calls (a0:Int) (a1:Int) (r1:Int) (r2:Int) (r3:Int) (r4:Int) (r5:Bool) (r6:Int) (r7:List ByteArray) (r8:List Int) (r9:List (S63)) (r10:Int) (w:World) (h:replica_New.f a0 a1=some (r1,r2,r3,r4,r5,r6,r7,r8,r9,r10)) :
  Calls Tryz.prog 17 #[a0,a1] w fun e w'=>∃ v6_ v7_ v8_:Value,e=.returned (.tuple #[.agg #[r1,r2,r3,r4,r5,r6,v6_,v7_,v8_],.int .i64 r10])∧Kd.R Kd.string 9 w' w.heap.size (fun _=>True) v6_ r7∧Kd.R (Kd.int .i64) 3 w' w.heap.size (fun _=>True) v7_ r8∧Kd.S k63 63 w' w.heap.size (fun k_=>some k_≠(v6_:Value).ownBlock) v8_ r9∧Below w.heap.size w w':=by
 have hu26:=Tryz.underlying26
 have HB:=sd (Below.refl w.heap.size w)
 have H:((replica_size.f a1).bind fun t431=>(if t431=true then (if a0 < 0 then (some (0,0,0,0,false,0,([]:List ByteArray),([]:List Int),([]:List (S63)),1)) else (if a0≥a1 then (some (0,0,0,0,false,0,([]:List ByteArray),([]:List Int),([]:List (S63)),1)) else (if 0≤a1 then (if (a1:Int).toNat≤35184372088832 then (some (a0,a1,0,0,true,0,([]:List ByteArray),(List.replicate (a1:Int).toNat 0),([]:List (S63)),0)) else (none)) else (none)))) else (some (0,0,0,0,false,0,([]:List ByteArray),([]:List Int),([]:List (S63)),1))))=some (r1,r2,r3,r4,r5,r6,r7,r8,r9,r10):=h
 clear h
 replace H:=Option.bind_eq_some_iff.mp H
 obtain ⟨t431,A30,H⟩:=H
 replace H:(if t431=true then (if a0 < 0 then (some (0,0,0,0,false,0,([]:List ByteArray),([]:List Int),([]:List (S63)),1)) else (if a0≥a1 then (some (0,0,0,0,false,0,([]:List ByteArray),([]:List Int),([]:List (S63)),1)) else (if 0≤a1 then (if (a1:Int).toNat≤35184372088832 then (some (a0,a1,0,0,true,0,([]:List ByteArray),(List.replicate (a1:Int).toNat 0),([]:List (S63)),0)) else (none)) else (none)))) else (some (0,0,0,0,false,0,([]:List ByteArray),([]:List Int),([]:List (S63)),1)))=some (r1,r2,r3,r4,r5,r6,r7,r8,r9,r10):=H
 have A3:=sd A30
 clear A30
 by_cases c4:t431=true
 ·subst c4
  rw [if_pos rfl] at H
  by_cases c5:a0 < 0
  ·rw [if_pos c5] at H
   have c5b0:decide (a0 < 0)=true:=decide_eq_true c5
   clear c5
   simp only [Option.some.injEq,Prod.mk.injEq] at H
   obtain ⟨rfl,rfl,rfl,rfl,rfl,rfl,rfl,rfl,rfl,rfl⟩:=H
   go_enter Tryz.func17,Tryz.ntmps17
   go_wp2_with (first | ((with_reducible refine gate_dst (N:=4) rfl ?_);refine box_event ?hg (N:=4) ?hd (cs:=#[.int .i64 0,.int .i64 0,.int .i64 0,.int .i64 0,false,.int .i64 0,.slice none 0 0,.slice none 0 0,.slice none 0 0]) (t:=26) ?hr ?_;(case hd=>rfl);(case hg=>rfl);(case hr=>(go_simp;done));intro gb430 hg w6 hbox hb;have BK430:=sd (hbox);have GW430:=sd ((by rw [hg];exact (below_size HB.out):w.heap.size≤gb430));have GE430:=sd ((by rw [hg];exact (below_size HB.out):w.heap.size≤gb430));replace HB:=sd (below_step HB.out hb);clear hb hbox hg) | ((with_reducible refine gate_callee (f:=58) rfl ?_);refine goesL_ (some 7) rfl rfl Tryz.func58 (by kernel_rfl) rfl #[a1] rfl (by (try simp only [List.map_toArray,List.map_cons,List.map_nil]);rfl) ?_;(with_reducible refine (replica_size.calls a1 true _ A3.out).mono ?_);rintro e w' ⟨rfl,⟨nd,rfl⟩⟩;refine ⟨_,rfl,?_⟩;(try (rw [drewN_self w6];generalize hq_:World.drewN w6 _=w6;have n0_:Aside0 (w6.heap[gb430]?=some (.cells #[.int .i64 0,.int .i64 0,.int .i64 0,.int .i64 0,false,.int .i64 0,.slice none 0 0,.slice none 0 0,.slice none 0 0] 26 (0,0))):=⟨by rw [← hq_];exact (by (with_reducible repeat ((refine blk_drewN ?_ _)));exact BK430.out)⟩;have n1_:Aside0 (Below w.heap.size w w6):=⟨by rw [← hq_];exact (by repeat ((with_reducible first | exact HB.out | apply pw_below_drewN)))⟩;clear BK430 HB hq_;have BK430:=n0_;have HB:=n1_;clear n0_ n1_));obtain ⟨hcz7_0,hcz7_1,hcz7_2,hcz7_3,hcz7_4,hcz7_5,hcz7_6,hcz7_7,hcz7_8⟩:=cells9 BK430.out;have hfz7:=fr_of BK430.out))
   refine bodyPost_ret (results_ct rfl _ _ gb430 26 #[.int .i64 0,.int .i64 0,.int .i64 0,.int .i64 0,false,.int .i64 0,.slice none 0 0,.slice none 0 0,.slice none 0 0] (0,0) _ rfl (by (with_reducible repeat (fail));refine blk_put (cs:=#[.int .i64 0,.int .i64 0,.int .i64 0,.int .i64 0,false,.int .i64 0,.slice none 0 0,.slice none 0 0,.slice none 0 0]) ?_ 8 _ rfl;(with_reducible repeat (fail));refine blk_put (cs:=#[.int .i64 0,.int .i64 0,.int .i64 0,.int .i64 0,false,.int .i64 0,.slice none 0 0,.slice none 0 0,.slice none 0 0]) ?_ 7 _ rfl;(with_reducible repeat (fail));refine blk_put (cs:=#[.int .i64 0,.int .i64 0,.int .i64 0,.int .i64 0,false,.int .i64 0,.slice none 0 0,.slice none 0 0,.slice none 0 0]) ?_ 6 _ rfl;(with_reducible repeat (fail));refine blk_put (cs:=#[.int .i64 0,.int .i64 0,.int .i64 0,.int .i64 0,false,.int .i64 0,.slice none 0 0,.slice none 0 0,.slice none 0 0]) ?_ 5 _ rfl;(with_reducible repeat (fail));refine blk_put (cs:=#[.int .i64 0,.int .i64 0,.int .i64 0,.int .i64 0,false,.int .i64 0,.slice none 0 0,.slice none 0 0,.slice none 0 0]) ?_ 4 _ rfl;(with_reducible repeat (fail));refine blk_put (cs:=#[.int .i64 0,.int .i64 0,.int .i64 0,.int .i64 0,false,.int .i64 0,.slice none 0 0,.slice none 0 0,.slice none 0 0]) ?_ 3 _ rfl;(with_reducible repeat (fail));refine blk_put (cs:=#[.int .i64 0,.int .i64 0,.int .i64 0,.int .i64 0,false,.int .i64 0,.slice none 0 0,.slice none 0 0,.slice none 0 0]) ?_ 2 _ rfl;(with_reducible repeat (fail));refine blk_put (cs:=#[.int .i64 0,.int .i64 0,.int .i64 0,.int .i64 0,false,.int .i64 0,.slice none 0 0,.slice none 0 0,.slice none 0 0]) ?_ 1 _ rfl;(with_reducible repeat (fail));refine blk_put (cs:=#[.int .i64 0,.int .i64 0,.int .i64 0,.int .i64 0,false,.int .i64 0,.slice none 0 0,.slice none 0 0,.slice none 0 0]) ?_ 0 _ rfl;(with_reducible repeat (fail));exact BK430.out) Tryz.underlying26 rfl (by kernel_rfl)) rfl ?_
   exact ⟨_,_,_,by rfl,by (exact Kd.R_nil _ _ _ _ _),by (exact Kd.R_nil _ _ _ _ _),by (exact Kd.S_nil _ _ _ _ _),by repeat ((with_reducible first | exact HB.out | refine below_set ?_ GE430.out))⟩
  ·rw [if_neg c5] at H
   have c5b0:decide (a0 < 0)=false:=decide_eq_false c5
   clear c5
   by_cases c8:a0≥a1
   ·rw [if_pos c8] at H
    have c8b0:decide (a1≤a0)=true:=decide_eq_true c8
    clear c8
    simp only [Option.some.injEq,Prod.mk.injEq] at H
    obtain ⟨rfl,rfl,rfl,rfl,rfl,rfl,rfl,rfl,rfl,rfl⟩:=H
    go_enter Tryz.func17,Tryz.ntmps17
    go_wp2_with (first | ((with_reducible refine gate_dst (N:=4) rfl ?_);refine box_event ?hg (N:=4) ?hd (cs:=#[.int .i64 0,.int .i64 0,.int .i64 0,.int .i64 0,false,.int .i64 0,.slice none 0 0,.slice none 0 0,.slice none 0 0]) (t:=26) ?hr ?_;(case hd=>rfl);(case hg=>rfl);(case hr=>(go_simp;done));intro gb430 hg w9 hbox hb;have BK430:=sd (hbox);have GW430:=sd ((by rw [hg];exact (below_size HB.out):w.heap.size≤gb430));have GE430:=sd ((by rw [hg];exact (below_size HB.out):w.heap.size≤gb430));replace HB:=sd (below_step HB.out hb);clear hb hbox hg) | ((with_reducible refine gate_callee (f:=58) rfl ?_);refine goesL_ (some 7) rfl rfl Tryz.func58 (by kernel_rfl) rfl #[a1] rfl (by (try simp only [List.map_toArray,List.map_cons,List.map_nil]);rfl) ?_;(with_reducible refine (replica_size.calls a1 true _ A3.out).mono ?_);rintro e w' ⟨rfl,⟨nd,rfl⟩⟩;refine ⟨_,rfl,?_⟩;(try (rw [drewN_self w9];generalize hq_:World.drewN w9 _=w9;have n0_:Aside0 (w9.heap[gb430]?=some (.cells #[.int .i64 0,.int .i64 0,.int .i64 0,.int .i64 0,false,.int .i64 0,.slice none 0 0,.slice none 0 0,.slice none 0 0] 26 (0,0))):=⟨by rw [← hq_];exact (by (with_reducible repeat ((refine blk_drewN ?_ _)));exact BK430.out)⟩;have n1_:Aside0 (Below w.heap.size w w9):=⟨by rw [← hq_];exact (by repeat ((with_reducible first | exact HB.out | apply pw_below_drewN)))⟩;clear BK430 HB hq_;have BK430:=n0_;have HB:=n1_;clear n0_ n1_));obtain ⟨hcz10_0,hcz10_1,hcz10_2,hcz10_3,hcz10_4,hcz10_5,hcz10_6,hcz10_7,hcz10_8⟩:=cells9 BK430.out;have hfz10:=fr_of BK430.out))
    refine bodyPost_ret (results_ct rfl _ _ gb430 26 #[.int .i64 0,.int .i64 0,.int .i64 0,.int .i64 0,false,.int .i64 0,.slice none 0 0,.slice none 0 0,.slice none 0 0] (0,0) _ rfl (by (with_reducible repeat (fail));refine blk_put (cs:=#[.int .i64 0,.int .i64 0,.int .i64 0,.int .i64 0,false,.int .i64 0,.slice none 0 0,.slice none 0 0,.slice none 0 0]) ?_ 8 _ rfl;(with_reducible repeat (fail));refine blk_put (cs:=#[.int .i64 0,.int .i64 0,.int .i64 0,.int .i64 0,false,.int .i64 0,.slice none 0 0,.slice none 0 0,.slice none 0 0]) ?_ 7 _ rfl;(with_reducible repeat (fail));refine blk_put (cs:=#[.int .i64 0,.int .i64 0,.int .i64 0,.int .i64 0,false,.int .i64 0,.slice none 0 0,.slice none 0 0,.slice none 0 0]) ?_ 6 _ rfl;(with_reducible repeat (fail));refine blk_put (cs:=#[.int .i64 0,.int .i64 0,.int .i64 0,.int .i64 0,false,.int .i64 0,.slice none 0 0,.slice none 0 0,.slice none 0 0]) ?_ 5 _ rfl;(with_reducible repeat (fail));refine blk_put (cs:=#[.int .i64 0,.int .i64 0,.int .i64 0,.int .i64 0,false,.int .i64 0,.slice none 0 0,.slice none 0 0,.slice none 0 0]) ?_ 4 _ rfl;(with_reducible repeat (fail));refine blk_put (cs:=#[.int .i64 0,.int .i64 0,.int .i64 0,.int .i64 0,false,.int .i64 0,.slice none 0 0,.slice none 0 0,.slice none 0 0]) ?_ 3 _ rfl;(with_reducible repeat (fail));refine blk_put (cs:=#[.int .i64 0,.int .i64 0,.int .i64 0,.int .i64 0,false,.int .i64 0,.slice none 0 0,.slice none 0 0,.slice none 0 0]) ?_ 2 _ rfl;(with_reducible repeat (fail));refine blk_put (cs:=#[.int .i64 0,.int .i64 0,.int .i64 0,.int .i64 0,false,.int .i64 0,.slice none 0 0,.slice none 0 0,.slice none 0 0]) ?_ 1 _ rfl;(with_reducible repeat (fail));refine blk_put (cs:=#[.int .i64 0,.int .i64 0,.int .i64 0,.int .i64 0,false,.int .i64 0,.slice none 0 0,.slice none 0 0,.slice none 0 0]) ?_ 0 _ rfl;(with_reducible repeat (fail));exact BK430.out) Tryz.underlying26 rfl (by kernel_rfl)) rfl ?_
    exact ⟨_,_,_,by rfl,by (exact Kd.R_nil _ _ _ _ _),by (exact Kd.R_nil _ _ _ _ _),by (exact Kd.S_nil _ _ _ _ _),by repeat ((with_reducible first | exact HB.out | refine below_set ?_ GE430.out))⟩
   ·rw [if_neg c8] at H
    have c8b0:decide (a1≤a0)=false:=decide_eq_false c8
    clear c8
    by_cases c11:0≤a1
    ·rw [if_pos c11] at H
     have c11b0:=eq_true c11
     have c11b1:decide (0≤a1)=true:=decide_eq_true c11
     clear c11
     by_cases c12:(a1:Int).toNat≤35184372088832
     ·rw [if_pos c12] at H
      have c12b0:=eq_true c12
      have c12b1:decide ((a1:Int).toNat≤35184372088832)=true:=decide_eq_true c12
      clear c12
      obtain ⟨y432,hy432⟩:∃ y_:List Int,y_=(List.replicate (a1:Int).toNat 0):=⟨_,rfl⟩
      replace H:(some (a0,a1,0,0,true,0,([]:List ByteArray),y432,([]:List (S63)),0))=some (r1,r2,r3,r4,r5,r6,r7,r8,r9,r10):=by (rw [hy432];with_reducible exact H)
      have Ny432:=sd hy432
      clear hy432
      simp only [Option.some.injEq,Prod.mk.injEq] at H
      obtain ⟨rfl,rfl,rfl,rfl,rfl,rfl,rfl,rfl,rfl,rfl⟩:=H
      go_enter Tryz.func17,Tryz.ntmps17
      go_wp2_with (first | ((with_reducible refine gate_dst (N:=4) rfl ?_);refine box_event ?hg (N:=4) ?hd (cs:=#[.int .i64 0,.int .i64 0,.int .i64 0,.int .i64 0,false,.int .i64 0,.slice none 0 0,.slice none 0 0,.slice none 0 0]) (t:=26) ?hr ?_;(case hd=>rfl);(case hg=>rfl);(case hr=>(go_simp;done));intro gb430 hg w13 hbox hb;have BK430:=sd (hbox);have GW430:=sd ((by rw [hg];exact (below_size HB.out):w.heap.size≤gb430));have GE430:=sd ((by rw [hg];exact (below_size HB.out):w.heap.size≤gb430));replace HB:=sd (below_step HB.out hb);clear hb hbox hg) | ((with_reducible refine gate_callee (f:=58) rfl ?_);refine goesL_ (some 7) rfl rfl Tryz.func58 (by kernel_rfl) rfl #[a1] rfl (by (try simp only [List.map_toArray,List.map_cons,List.map_nil]);rfl) ?_;(with_reducible refine (replica_size.calls a1 true _ A3.out).mono ?_);rintro e w' ⟨rfl,⟨nd,rfl⟩⟩;refine ⟨_,rfl,?_⟩;(try (rw [drewN_self w13];generalize hq_:World.drewN w13 _=w13;have n0_:Aside0 (w13.heap[gb430]?=some (.cells #[.int .i64 0,.int .i64 0,.int .i64 0,.int .i64 0,false,.int .i64 0,.slice none 0 0,.slice none 0 0,.slice none 0 0] 26 (0,0))):=⟨by rw [← hq_];exact (by (with_reducible repeat ((refine blk_drewN ?_ _)));exact BK430.out)⟩;have n1_:Aside0 (Below w.heap.size w w13):=⟨by rw [← hq_];exact (by repeat ((with_reducible first | exact HB.out | apply pw_below_drewN)))⟩;clear BK430 HB hq_;have BK430:=n0_;have HB:=n1_;clear n0_ n1_))) | ((with_reducible refine gate_dst (N:=22) rfl ?_);refine Kd.R_make (Kd.int .i64) _ 3 rfl (N:=22) rfl 23 _ _ rfl a1 rfl rfl Tryz.underlying23 (.int .i64 0) 8 info3 rfl (by decide) (by omega) 0 (ok:=fun _=>True) (okp:=fun _=>True) rfl (fun _ hk=>hk) trivial (of_decide_eq_true (by (with_reducible assumption))) (Nat.le_trans (Nat.mul_le_mul_right _ (of_decide_eq_true (by (with_reducible assumption)):a1.toNat≤35184372088832)) (by omega)) (Below.refl _ _) (Nat.le_refl _) ?_;intro v433 w14 ho15 hb hg_ hnew_;clear hg_ hnew_;((rw [← Ny432.out] at ho15));have HO434:=sd (Kd.R_lower ho15 (below_size HB.out));replace BK430:=sd (blk_below BK430.out hb);replace HB:=sd (below_step HB.out hb);clear hb ho15;obtain ⟨Ao16,co16,eo16⟩:=Kd.R_slice HO434.out;subst eo16;obtain ⟨hcz17_0,hcz17_1,hcz17_2,hcz17_3,hcz17_4,hcz17_5,hcz17_6,hcz17_7,hcz17_8⟩:=cells9 BK430.out;have hfz17:=fr_of BK430.out))
      refine bodyPost_ret (results_ct rfl _ _ gb430 26 #[a0,a1,.int .i64 0,.int .i64 0,true,.int .i64 0,.slice none 0 0,.slice Ao16 y432.length co16,.slice none 0 0] (0,0) _ rfl (by (with_reducible repeat (fail));refine blk_put (cs:=#[a0,a1,.int .i64 0,.int .i64 0,true,.int .i64 0,.slice none 0 0,.slice Ao16 y432.length co16,.slice none 0 0]) ?_ 8 _ rfl;(with_reducible repeat (fail));refine blk_put (cs:=#[a0,a1,.int .i64 0,.int .i64 0,true,.int .i64 0,.slice none 0 0,.slice none 0 0,.slice none 0 0]) ?_ 7 _ rfl;(with_reducible repeat (fail));refine blk_put (cs:=#[a0,a1,.int .i64 0,.int .i64 0,true,.int .i64 0,.slice none 0 0,.slice none 0 0,.slice none 0 0]) ?_ 6 _ rfl;(with_reducible repeat (fail));refine blk_put (cs:=#[a0,a1,.int .i64 0,.int .i64 0,true,.int .i64 0,.slice none 0 0,.slice none 0 0,.slice none 0 0]) ?_ 5 _ rfl;(with_reducible repeat (fail));refine blk_put (cs:=#[a0,a1,.int .i64 0,.int .i64 0,false,.int .i64 0,.slice none 0 0,.slice none 0 0,.slice none 0 0]) ?_ 4 _ rfl;(with_reducible repeat (fail));refine blk_put (cs:=#[a0,a1,.int .i64 0,.int .i64 0,false,.int .i64 0,.slice none 0 0,.slice none 0 0,.slice none 0 0]) ?_ 3 _ rfl;(with_reducible repeat (fail));refine blk_put (cs:=#[a0,a1,.int .i64 0,.int .i64 0,false,.int .i64 0,.slice none 0 0,.slice none 0 0,.slice none 0 0]) ?_ 2 _ rfl;(with_reducible repeat (fail));refine blk_put (cs:=#[a0,.int .i64 0,.int .i64 0,.int .i64 0,false,.int .i64 0,.slice none 0 0,.slice none 0 0,.slice none 0 0]) ?_ 1 _ rfl;(with_reducible repeat (fail));refine blk_put (cs:=#[.int .i64 0,.int .i64 0,.int .i64 0,.int .i64 0,false,.int .i64 0,.slice none 0 0,.slice none 0 0,.slice none 0 0]) ?_ 0 _ rfl;(with_reducible repeat (fail));exact BK430.out) Tryz.underlying26 rfl (by kernel_rfl)) rfl ?_
      exact ⟨_,_,_,by rfl,by (exact Kd.R_nil _ _ _ _ _),by (with_reducible repeat (fail));exact Kd.R_mono (Kd.R_far (p:=⟨gb430,8,none⟩) (Kd.R_far (p:=⟨gb430,7,none⟩) (Kd.R_far (p:=⟨gb430,6,none⟩) (Kd.R_far (p:=⟨gb430,5,none⟩) (Kd.R_far (p:=⟨gb430,4,none⟩) (Kd.R_far (p:=⟨gb430,3,none⟩) (Kd.R_far (p:=⟨gb430,2,none⟩) (Kd.R_far (p:=⟨gb430,1,none⟩) (Kd.R_far (p:=⟨gb430,0,none⟩) (Kd.R_types HO434.out BK430.out (by decide)) (fun _ hk=>hk.2) a0) (fun _ hk=>hk.2) a1) (fun _ hk=>hk.2) (.int .i64 0)) (fun _ hk=>hk.2) (.int .i64 0)) (fun _ hk=>hk.2) true) (fun _ hk=>hk.2) (.int .i64 0)) (fun _ hk=>hk.2) (.slice none 0 0)) (fun _ hk=>hk.2) (.slice Ao16 y432.length co16)) (fun _ hk=>hk.2) (.slice none 0 0)) (fun _ hk=>trivial),by (exact Kd.S_nil _ _ _ _ _),by repeat ((with_reducible first | exact HB.out | refine below_set ?_ GE430.out))⟩
     ·rw [if_neg c12] at H
      exact absurd H (by simp)
    ·rw [if_neg c11] at H
     exact absurd H (by simp)
 ·replace c4:=Bool.eq_false_iff.mpr c4
  subst c4
  rw [if_neg (show ¬ (false=true) by decide)] at H
  simp only [Option.some.injEq,Prod.mk.injEq] at H
  obtain ⟨rfl,rfl,rfl,rfl,rfl,rfl,rfl,rfl,rfl,rfl⟩:=H
  go_enter Tryz.func17,Tryz.ntmps17
  go_wp2_with (first | ((with_reducible refine gate_dst (N:=4) rfl ?_);refine box_event ?hg (N:=4) ?hd (cs:=#[.int .i64 0,.int .i64 0,.int .i64 0,.int .i64 0,false,.int .i64 0,.slice none 0 0,.slice none 0 0,.slice none 0 0]) (t:=26) ?hr ?_;(case hd=>rfl);(case hg=>rfl);(case hr=>(go_simp;done));intro gb430 hg w18 hbox hb;have BK430:=sd (hbox);have GW430:=sd ((by rw [hg];exact (below_size HB.out):w.heap.size≤gb430));have GE430:=sd ((by rw [hg];exact (below_size HB.out):w.heap.size≤gb430));replace HB:=sd (below_step HB.out hb);clear hb hbox hg) | ((with_reducible refine gate_callee (f:=58) rfl ?_);refine goesL_ (some 7) rfl rfl Tryz.func58 (by kernel_rfl) rfl #[a1] rfl (by (try simp only [List.map_toArray,List.map_cons,List.map_nil]);rfl) ?_;(with_reducible refine (replica_size.calls a1 false _ A3.out).mono ?_);rintro e w' ⟨rfl,⟨nd,rfl⟩⟩;refine ⟨_,rfl,?_⟩;(try (rw [drewN_self w18];generalize hq_:World.drewN w18 _=w18;have n0_:Aside0 (w18.heap[gb430]?=some (.cells #[.int .i64 0,.int .i64 0,.int .i64 0,.int .i64 0,false,.int .i64 0,.slice none 0 0,.slice none 0 0,.slice none 0 0] 26 (0,0))):=⟨by rw [← hq_];exact (by (with_reducible repeat ((refine blk_drewN ?_ _)));exact BK430.out)⟩;have n1_:Aside0 (Below w.heap.size w w18):=⟨by rw [← hq_];exact (by repeat ((with_reducible first | exact HB.out | apply pw_below_drewN)))⟩;clear BK430 HB hq_;have BK430:=n0_;have HB:=n1_;clear n0_ n1_));obtain ⟨hcz19_0,hcz19_1,hcz19_2,hcz19_3,hcz19_4,hcz19_5,hcz19_6,hcz19_7,hcz19_8⟩:=cells9 BK430.out;have hfz19:=fr_of BK430.out))
  refine bodyPost_ret (results_ct rfl _ _ gb430 26 #[.int .i64 0,.int .i64 0,.int .i64 0,.int .i64 0,false,.int .i64 0,.slice none 0 0,.slice none 0 0,.slice none 0 0] (0,0) _ rfl (by (with_reducible repeat (fail));refine blk_put (cs:=#[.int .i64 0,.int .i64 0,.int .i64 0,.int .i64 0,false,.int .i64 0,.slice none 0 0,.slice none 0 0,.slice none 0 0]) ?_ 8 _ rfl;(with_reducible repeat (fail));refine blk_put (cs:=#[.int .i64 0,.int .i64 0,.int .i64 0,.int .i64 0,false,.int .i64 0,.slice none 0 0,.slice none 0 0,.slice none 0 0]) ?_ 7 _ rfl;(with_reducible repeat (fail));refine blk_put (cs:=#[.int .i64 0,.int .i64 0,.int .i64 0,.int .i64 0,false,.int .i64 0,.slice none 0 0,.slice none 0 0,.slice none 0 0]) ?_ 6 _ rfl;(with_reducible repeat (fail));refine blk_put (cs:=#[.int .i64 0,.int .i64 0,.int .i64 0,.int .i64 0,false,.int .i64 0,.slice none 0 0,.slice none 0 0,.slice none 0 0]) ?_ 5 _ rfl;(with_reducible repeat (fail));refine blk_put (cs:=#[.int .i64 0,.int .i64 0,.int .i64 0,.int .i64 0,false,.int .i64 0,.slice none 0 0,.slice none 0 0,.slice none 0 0]) ?_ 4 _ rfl;(with_reducible repeat (fail));refine blk_put (cs:=#[.int .i64 0,.int .i64 0,.int .i64 0,.int .i64 0,false,.int .i64 0,.slice none 0 0,.slice none 0 0,.slice none 0 0]) ?_ 3 _ rfl;(with_reducible repeat (fail));refine blk_put (cs:=#[.int .i64 0,.int .i64 0,.int .i64 0,.int .i64 0,false,.int .i64 0,.slice none 0 0,.slice none 0 0,.slice none 0 0]) ?_ 2 _ rfl;(with_reducible repeat (fail));refine blk_put (cs:=#[.int .i64 0,.int .i64 0,.int .i64 0,.int .i64 0,false,.int .i64 0,.slice none 0 0,.slice none 0 0,.slice none 0 0]) ?_ 1 _ rfl;(with_reducible repeat (fail));refine blk_put (cs:=#[.int .i64 0,.int .i64 0,.int .i64 0,.int .i64 0,false,.int .i64 0,.slice none 0 0,.slice none 0 0,.slice none 0 0]) ?_ 0 _ rfl;(with_reducible repeat (fail));exact BK430.out) Tryz.underlying26 rfl (by kernel_rfl)) rfl ?_
  exact ⟨_,_,_,by rfl,by (exact Kd.R_nil _ _ _ _ _),by (exact Kd.R_nil _ _ _ _ _),by (exact Kd.S_nil _ _ _ _ _),by repeat ((with_reducible first | exact HB.out | refine below_set ?_ GE430.out))⟩
def quorum_Primary.f (a0:Int) (a1:Int):Option (Int×Bool):=if a0 < 0 then (some (0,false)) else (if a1 < 1 then (some (0,false)) else (if a1=0 then (none) else (some (Int.tmod a0 a1,true))))
theorem quorum_Primary.calls (a0:Int) (a1:Int) (r1:Int) (r2:Bool) (w:World) (h:quorum_Primary.f a0 a1=some (r1,r2)) :
  Calls Tryz.prog 36 #[a0,a1] w fun e w'=>e=.returned (.tuple #[r1,r2])∧Drawn0 w w':=by
 have H:(if a0 < 0 then (some (0,false)) else (if a1 < 1 then (some (0,false)) else (if a1=0 then (none) else (some (Int.tmod a0 a1,true)))))=some (r1,r2):=h
 clear h
 by_cases c3:a0 < 0
 ·rw [if_pos c3] at H
  have c3b0:decide (a0 < 0)=true:=decide_eq_true c3
  clear c3
  simp only [Option.some.injEq,Prod.mk.injEq] at H
  obtain ⟨rfl,rfl⟩:=H
  go_enter Tryz.func36,Tryz.ntmps36
  go_wp2
  go_ret2
  exact ⟨by rfl,by repeat ((exact Drawn0.refl _))⟩
 ·rw [if_neg c3] at H
  have c3b0:decide (a0 < 0)=false:=decide_eq_false c3
  clear c3
  by_cases c4:a1 < 1
  ·rw [if_pos c4] at H
   have c4b0:decide (a1 < 1)=true:=decide_eq_true c4
   clear c4
   simp only [Option.some.injEq,Prod.mk.injEq] at H
   obtain ⟨rfl,rfl⟩:=H
   go_enter Tryz.func36,Tryz.ntmps36
   go_wp2
   go_ret2
   exact ⟨by rfl,by repeat ((exact Drawn0.refl _))⟩
  ·rw [if_neg c4] at H
   have c4b0:decide (a1 < 1)=false:=decide_eq_false c4
   clear c4
   by_cases c5:a1=0
   ·rw [if_pos c5] at H
    exact absurd H (by simp)
   ·rw [if_neg c5] at H
    have c5b0:(a1==0)=false:=beq_eq_false_iff_ne.mpr c5
    have c5b1:(a1 != 0)=true:=bne_iff_ne.mpr c5
    simp only [Option.some.injEq,Prod.mk.injEq] at H
    obtain ⟨rfl,rfl⟩:=H
    go_enter Tryz.func36,Tryz.ntmps36
    go_wp2
    go_ret2
    exact ⟨by rfl,by repeat ((exact Drawn0.refl _))⟩
def IsS56 (w0 W:World) (g:Nat) (f0:Int) (f1:Int) (f2:Int) (f3:Int) (f4:Bool) (f5:Int) (f6:List ByteArray) (f7:List Int) (f8:List (S63)) (f9:List (S28)):Prop:=∃ A6 c6,∃ A7 c7,∃ A8 c8,∃ A9 c9,W.heap[g]?=some (.cells #[.int .i64 f0,.int .i64 f1,.int .i64 f2,.int .i64 f3,.bool f4,.int .i64 f5,.slice A6 f6.length c6,.slice A7 f7.length c7,.slice A8 f8.length c8,.slice A9 f9.length c9] 56 (0,0))∧w0.heap.size≤g∧Kd.C Kd.string w0 A6 f6.length f6∧Kd.C (Kd.int .i64) w0 A7 f7.length f7∧Kd.C k63 w0 A8 f8.length f8∧Kd.C k28 w0 A9 f9.length f9
theorem IsS56.grown {w0 W:World} {g:Nat} {f0:Int} {f1:Int} {f2:Int} {f3:Int} {f4:Bool} {f5:Int} {f6:List ByteArray} {f7:List Int} {f8:List (S63)} {f9:List (S28)} {W1:World} {row:Option Nat} (h:IsS56 w0 W g f0 f1 f2 f3 f4 f5 f6 f7 f8 f9) (hw:W.grownBy W1 row) (hne:some g≠row):IsS56 w0 W1 g f0 f1 f2 f3 f4 f5 f6 f7 f8 f9:=by
 obtain ⟨A6,c6,A7,c7,A8,c8,A9,c9,hb,hg,hr6,hr7,hr8,hr9⟩:=h
 exact ⟨A6,c6,A7,c7,A8,c8,A9,c9,blk_grown hb hw hne,hg,hr6,hr7,hr8,hr9⟩
theorem IsS56.below {w0 W:World} {g:Nat} {f0:Int} {f1:Int} {f2:Int} {f3:Int} {f4:Bool} {f5:Int} {f6:List ByteArray} {f7:List Int} {f8:List (S63)} {f9:List (S28)} {W1:World} (h:IsS56 w0 W g f0 f1 f2 f3 f4 f5 f6 f7 f8 f9) (hw:Below W.heap.size W W1):IsS56 w0 W1 g f0 f1 f2 f3 f4 f5 f6 f7 f8 f9:=h.grown (grown_of_below hw none) (by simp)
theorem IsS56.alloc {w0 W:World} {g:Nat} {f0:Int} {f1:Int} {f2:Int} {f3:Int} {f4:Bool} {f5:Int} {f6:List ByteArray} {f7:List Int} {f8:List (S63)} {f9:List (S28)} (h:IsS56 w0 W g f0 f1 f2 f3 f4 f5 f6 f7 f8 f9) (o:Obj):IsS56 w0 (W.alloc o) g f0 f1 f2 f3 f4 f5 f6 f7 f8 f9:=h.below (below_alloc (Below.refl _ _) o)
theorem quorum_Commit.maj (n:Nat) (h0:1≤n) (hn:n < 4398046511104) (w:World) :
  Calls Tryz.prog 89 #[(n:Int)] w fun e w'=>e=.returned ((n / 2+1:Nat):Int)∧Drawn0 w w':=by
 have c2b0:decide ((n:Int) < 1)=false:=decide_eq_false (by omega)
 have hw:IntKind.i64.wrap (IntKind.i64.wrap (Int.tdiv (n:Int) 2)+1)=((n / 2+1:Nat):Int):=by
  rw [Int.tdiv_eq_ediv_of_nonneg (by omega),IntKind.wrap_i64,IntKind.wrap_i64]
  omega
 go_enter Tryz.func89,Tryz.ntmps89
 go_wp2
 go_ret
 refine ⟨?_,by repeat ((exact Drawn0.refl _))⟩
 simp [hw]
theorem quorum_Commit.cell_of (w:World) (g:Nat) (cur:Array Value) (ss:List Int) (h:w.heap[g]?=some (.cells cur 3 (0,0))) (ht:cur.toList.take ss.length=ss.map (Value.int .i64)) (i:Nat) (hi:i < ss.length) :
  w.cell? ⟨g,i,none⟩=some (.int .i64 (ss.getD i 0)):=by
 have h1:=(holds_of_blockI h ht i (by simpa using hi)).1
 rw [Nat.zero_add] at h1
 rw [h1]
 simp [List.getD_eq_getElem?_getD,List.getElem?_eq_getElem hi,hi]
def quorum_Commit.put (x:Int):List Int→List Int
 | []=>[x]
 | y::l=>if x≤y then x::y::l else y::quorum_Commit.put x l
def quorum_Commit.sorted (l:List Int):List Int:=l.foldr quorum_Commit.put []
theorem quorum_Commit.put_perm (x:Int) (l:List Int):(quorum_Commit.put x l).Perm (x::l):=by
 induction l with
 | nil=>exact List.Perm.refl _
 | cons y l ih =>
  simp only [quorum_Commit.put]
  split
  ·exact List.Perm.refl _
  ·exact (ih.cons y).trans (List.Perm.swap _ _ _)
theorem quorum_Commit.put_sorted (x:Int) (l:List Int) (h:l.Pairwise (·≤·)):(quorum_Commit.put x l).Pairwise (·≤·):=by
 induction l with
 | nil=>simp [quorum_Commit.put]
 | cons y l ih =>
  rw [List.pairwise_cons] at h
  simp only [quorum_Commit.put]
  split
  ·rename_i hxy
   rw [List.pairwise_cons,List.pairwise_cons]
   refine ⟨fun z hz=>?_,h.1,h.2⟩
   rcases List.mem_cons.1 hz with rfl | hz
   ·exact hxy
   ·have:=h.1 z hz;omega
  ·rename_i hxy
   rw [List.pairwise_cons]
   refine ⟨fun z hz=>?_,ih h.2⟩
   rcases List.mem_cons.1 ((quorum_Commit.put_perm x l).mem_iff.1 hz) with rfl | hz
   ·omega
   ·exact h.1 z hz
theorem quorum_Commit.sorted_perm (l:List Int):(quorum_Commit.sorted l).Perm l:=by
 induction l with
 | nil=>exact List.Perm.refl _
 | cons x l ih=>exact (quorum_Commit.put_perm x _).trans (ih.cons x)
theorem quorum_Commit.sorted_sorted (l:List Int):(quorum_Commit.sorted l).Pairwise (·≤·):=by
 induction l with
 | nil=>exact List.Pairwise.nil
 | cons x l ih=>exact quorum_Commit.put_sorted x _ ih
theorem quorum_Commit.sorted_eq (l:List Int):(l.mergeSort fun x y=>decide (x≤y))=quorum_Commit.sorted l:=by
 have h1:(l.mergeSort fun x y=>decide (x≤y)).Pairwise (fun x y=>decide (x≤y)=true):=List.pairwise_mergeSort (fun a b c h1 h2=>by simp at h1 h2 ⊢;omega) (fun a b=>by simp;omega) l
 have h2:(l.mergeSort fun x y=>decide (x≤y)).Pairwise (·≤·):=h1.imp (fun h=>by simpa using h)
 exact ((List.mergeSort_perm l _).trans (quorum_Commit.sorted_perm l).symm).eq_of_pairwise (fun a b _ _ h1 h2=>Int.le_antisymm h1 h2) h2 (quorum_Commit.sorted_sorted l)
def quorum_Commit.f (l0:List Int):Option Int:=if l0.length=0 then some 0 else if l0.length < 4398046511104 then some (max ((quorum_Commit.sorted l0).getD (l0.length - (l0.length / 2+1)) 0) 0) else none
theorem quorum_Commit.calls (A0:Option Addr) (c0:Nat) (l0:List Int) (r:Int) (w:World) (hr0:Kd.C (Kd.int .i64) w A0 l0.length l0) (hc0:l0.length≤c0) (h:quorum_Commit.f l0=some r) :
  Calls Tryz.prog 69 #[.slice A0 l0.length c0] w fun e w'=>e=.returned r∧Below w.heap.size w w':=by
 have hu23:=Tryz.underlying23
 have hu3:=Tryz.underlying3
 have HR:=sd hr0
 have HC:=sd hc0
 clear hr0 hc0
 unfold quorum_Commit.f at h
 by_cases h0:l0.length=0
 ·rw [if_pos h0] at h
  obtain rfl:=Option.some.inj h
  have hb:decide ((l0.length:Int)=0)=true:=decide_eq_true (by omega)
  rw [h0]
  go_enter Tryz.func69,Tryz.ntmps69
  go_wp2
  go_ret
  exact ⟨rfl,Below.refl _ _⟩
 rw [if_neg h0] at h
 by_cases hl':¬ l0.length < 4398046511104
 ·rw [if_neg hl'] at h;cases h
 have hl:l0.length < 4398046511104:=by omega
 rw [if_pos hl] at h
 have hr:=Option.some.inj h
 clear h
 have hm:∀ W:World,(Instr.makeSlice 23 (l0.length:Int) (l0.length:Int)).run Tryz.prog W=.ok (.slice (some ⟨W.heap.size,0,none⟩) l0.length l0.length) (W.alloc (.cells (madeCells (Value.int .i64 0).cells l0.length) 3)):=fun W=>by
  obtain ⟨i,hi,hz,hs,hb⟩:=info_parts info3
  have h:=run_make (P:=Tryz.prog) W 23 3 i (.int .i64 0) hu23 hi hz .i64 .i64 (l0.length:Int) (l0.length:Int) (by omega) (by omega) (by rw [hb];omega) (by omega)
  simp only [Int.toNat_natCast,hs,Nat.mul_one] at h
  exact h
 have hcp:(Builtin.copy_ #[23,23] 3 #[.slice (some ⟨w.heap.size,0,none⟩) l0.length l0.length,.slice A0 l0.length c0]).run Tryz.prog (w.alloc (.cells (madeCells (Value.int .i64 0).cells l0.length) 3))=.ok (l0.length:Int) (w.alloc (.cells (l0.map (Value.int .i64)).toArray 3)):=by
  obtain ⟨i,hi,hz,hs,hb⟩:=info_parts info3
  exact x_copy_fresh (P:=Tryz.prog) (Value.int .i64) (0:Int) (fun _=>rfl) w 23 23 3 3 3 hu23 (by rw [hi];simp [hs]) A0 l0.length c0 (madeCells (Value.int .i64 0).cells l0.length) (size_madeCells _ _) l0 (Kd.C_alloc HR.out _)
 have hsl:(quorum_Commit.sorted l0).length=l0.length:=(quorum_Commit.sorted_perm l0).length_eq
 obtain ⟨ss,hss⟩:∃ ss,ss=quorum_Commit.sorted l0:=⟨_,rfl⟩
 rw [← hss] at hsl hr
 obtain ⟨v,hv⟩:∃ v,v=ss.getD (l0.length - (l0.length / 2+1)) 0:=⟨_,rfl⟩
 rw [← hv] at hr
 have HSORT:Aside0 (∀ W:World,W.heap[w.heap.size]?=some (.cells (l0.map (Value.int .i64)).toArray 3 (0,0))→Calls Tryz.prog 88 #[.slice (some ⟨w.heap.size,0,none⟩) l0.length l0.length] W fun e w'=>e=.returned (.tuple #[])∧W.grownBy w' (some w.heap.size)∧∃ cur,w'.heap[w.heap.size]?=some (.cells cur 3 (0,0))∧cur.toList.take ss.length=ss.map (Value.int .i64)):=⟨fun W hW=>by
  have hH:=holds_of_blockI (ss:=l0) hW (List.take_of_length_le (by simp))
  have hlt:w.heap.size < W.heap.size:=(Array.getElem?_eq_some_iff.1 hW).1
  refine (Shelf.slices_Sort_int w.heap.size 0 l0.length l0 W hH hlt (by omega)).mono ?_
  rintro e w' ⟨rfl,nd,os,rfl⟩
  refine ⟨rfl,grownBy_sortedI _,_,heap_sortedI _ hW,?_⟩
  rw [show (l0.mergeSort fun x y=>decide (x≤y))=ss from (quorum_Commit.sorted_eq l0).trans hss.symm]
  exact take_putCellsI _ ss (by simp [hsl])⟩
 generalize hcs:(l0.map (Value.int .i64)).toArray=cs at *
 generalize hn:l0.length=n at *
 generalize hc:madeCells (Value.int .i64 0).cells n=mc at *
 have hz0:decide ((n:Int)=0)=false:=decide_eq_false (by omega)
 have HM:=sd (quorum_Commit.maj n (by omega) hl)
 have HV:=sd hv
 clear hv hss
 go_enter Tryz.func69,Tryz.ntmps69
 go_wp2_with (first | (go_at_call 88;refine (HSORT.out _ ?aH).mono ?_;(case aH=>exact x_alloc_new _ _);rintro e w1 ⟨rfl,hg1,cur,hcur,htk⟩;have HG1:=sd hg1;have hcell:=quorum_Commit.cell_of w1 w.heap.size cur ss hcur htk (n - (n / 2+1)) (by omega);rw [← HV.out] at hcell;clear hg1 hcur htk) | (go_at_call 89;refine (HM.out _).mono ?_;rintro e w' ⟨rfl,⟨nd,rfl⟩⟩))
 all_goals (go_ret;refine ⟨?_,?_⟩)
 ·rw [← hr,show max v 0=0 by omega];rfl
 ·exact pw_below_drewN (Below.grown (below_alloc (Below.refl w.heap.size w) (.cells cs 3)) HG1.out (by simp) (fun k hk=>by injection hk with hk;omega)) _
 ·rw [← hr,show max v 0=v by omega];rfl
 ·exact pw_below_drewN (Below.grown (below_alloc (Below.refl w.heap.size w) (.cells cs 3)) HG1.out (by simp) (fun k hk=>by injection hk with hk;omega)) _
end
end Go.Proofs.YtfpfpckocemmdaaGreat.P
