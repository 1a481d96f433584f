/- Part 36 of the walk. -/
import Derived.Test.YtfpfpckocemmdaaGreatCDoes35
set_option linter.unusedVariables false
set_option linter.unusedSimpArgs false
set_option maxHeartbeats 8000000
set_option maxRecDepth 100000
namespace Go.Proofs.YtfpfpckocemmdaaGreat.P
open Go.RowKit Go.Proofs.YtfpfpckocemmdaaGreatW.PrintWords Go.Proofs.YtfpfpckocemmdaaGreatW.PrintLast Go.Proofs.YtfpfpckocemmdaaGreatW.PrintMore
section
attribute [local go_sem] max2_int min2_int max_two min_two max_three min_three max_four min_four   -- for this text's walks alone
def sextonref22_Majority.f (a0:Int):Option (Int):=if a0 < 1 then (some 0) else (some (wrap64 ((wrap64 (Int.tdiv a0 2))+1)))
theorem sextonref22_Majority.calls (a0:Int) (r:Int) (w:World) (h:sextonref22_Majority.f a0=some r) :
  Calls Tryz.prog 90 #[a0] w fun e w'=>e=.returned r∧Drawn0 w w':=by
 have H:(if a0 < 1 then (some 0) else (some (wrap64 ((wrap64 (Int.tdiv a0 2))+1))))=some r:=h
 clear h
 by_cases c2:a0 < 1
 ·rw [if_pos c2] at H
  have c2b0:decide (a0 < 1)=true:=decide_eq_true c2
  clear c2
  obtain rfl:=Option.some.inj H
  go_enter Tryz.func90,Tryz.ntmps90
  go_wp2
  go_ret
  exact ⟨by rfl,by repeat ((exact Drawn0.refl _))⟩
 ·rw [if_neg c2] at H
  have c2b0:decide (a0 < 1)=false:=decide_eq_false c2
  clear c2
  obtain rfl:=Option.some.inj H
  go_enter Tryz.func90,Tryz.ntmps90
  go_wp2
  go_ret
  exact ⟨by rfl,by repeat ((exact Drawn0.refl _))⟩
mutual
def sextonref22_Commit.l0:Nat→List Int→Int→Int→Option (Int)
 | 0,_,_,_=>none
 | k+1,x0,x3,x4=>if x4 < (x0.length:Int) then (sextonref22_Commit.l1 k x0 x3 x4 0 0) else (some x3)
def sextonref22_Commit.l1:Nat→List Int→Int→Int→Int→Int→Option (Int)
 | 0,_,_,_,_,_=>none
 | k+1,x0,x3,x4,x5,x6=>if x6 < (x0.length:Int) then (if 0≤x6 then (if 0≤x4 then (if x4 < (x0.length:Int) then (if (rd x0 x6)≥(rd x0 x4) then (sextonref22_Commit.l1 k x0 x3 x4 (wrap64 (x5+1)) (wrap64 (x6+1))) else (sextonref22_Commit.l1 k x0 x3 x4 x5 (wrap64 (x6+1)))) else (none)) else (none)) else (none)) else ((sextonref22_Majority.f (x0.length:Int)).bind fun t164=>(if x5≥t164 then (if 0≤x4 then (if x4 < (x0.length:Int) then (sextonref22_Commit.l0 k x0 (mx x3 (rd x0 x4)) (wrap64 (x4+1))) else (none)) else (none)) else (sextonref22_Commit.l0 k x0 x3 (wrap64 (x4+1)))))
end
def sextonref22_Commit.f (k:Nat) (l0:List Int):Option (Int):=sextonref22_Commit.l0 k l0 0 0
theorem sextonref22_Commit.calls (k:Nat) (A0:Option Addr) (c0:Nat) (l0:List Int) (r:Int) (w:World) (hr0:Kd.C (Kd.int .i64) w A0 l0.length l0) (hc0:l0.length≤c0) (h:sextonref22_Commit.f k l0=some r) :
  Calls Tryz.prog 71 #[.slice A0 l0.length c0] w fun e w'=>e=.returned r∧Below w.heap.size w w':=by
 have HR0:=sd hr0
 have HC0:=sd hc0
 clear hr0 hc0
 have HB:=sd (Below.refl w.heap.size w)
 have H:(sextonref22_Commit.l0 k l0 0 0)=some r:=h
 clear h
 have H':=sd H
 clear H
 go_enter Tryz.func71,Tryz.ntmps71
 go_wp2
 repeat (go_quiet (fail);try go_wp2)
 go_loopg [3,4] k (fun kq v3 v4 w'=>∃ (x3_1:Int) (x4_1:Int),v3=.int .i64 x3_1∧v4=.int .i64 x4_1∧Aside0 (sextonref22_Commit.l0 kq l0 x3_1 x4_1=some r)∧Aside0 (kq≤k)∧Aside0 (Below w.heap.size w w'))
 case atStart=>exact ⟨(0),(0),(by rfl),(by rfl),H',⟨Nat.le_refl _⟩,⟨HB.out⟩⟩
 case round =>
  clear H'
  obtain ⟨x3_1,x4_1,rfl,rfl,HA,HK1,HB⟩:=hrel
  cases gk with
  | zero=>exact absurd HA.out (by simp [sextonref22_Commit.l0])
  | succ k1 =>
   have H:=HA.out
   clear HA
   simp only [sextonref22_Commit.l0] at H
   by_cases c2:x4_1 < (l0.length:Int)
   ·rw [if_pos c2] at H
    have c2b0:decide (x4_1 < (l0.length:Int))=true:=decide_eq_true c2
    clear c2
    have H':=sd H
    clear H
    go_wp2
    repeat (go_quiet (fail);try go_wp2)
    go_loopg [5,6] k1 (fun kq v5 v6 w'=>∃ (x5_2:Int) (x6_2:Int),v5=.int .i64 x5_2∧v6=.int .i64 x6_2∧Aside0 (sextonref22_Commit.l1 kq l0 x3_1 x4_1 x5_2 x6_2=some r)∧Aside0 (kq≤k1)∧Aside0 (Below w.heap.size w w'))
    case atStart=>exact ⟨(0),(0),(by rfl),(by rfl),H',⟨Nat.le_refl _⟩,⟨HB.out⟩⟩
    case round =>
     clear H'
     try clear c2b0
     obtain ⟨x5_2,x6_2,rfl,rfl,HA,HK2,HB⟩:=hrel
     cases gk with
     | zero=>exact absurd HA.out (by simp [sextonref22_Commit.l1])
     | succ k2 =>
      have H:=HA.out
      clear HA
      simp only [sextonref22_Commit.l1] at H
      by_cases c3:x6_2 < (l0.length:Int)
      ·rw [if_pos c3] at H
       have c3b0:decide (x6_2 < (l0.length:Int))=true:=decide_eq_true c3
       clear c3
       by_cases c4:0≤x6_2
       ·rw [if_pos c4] at H
        have c4b0:decide (0≤x6_2)=true:=decide_eq_true c4
        clear c4
        by_cases c5:0≤x4_1
        ·rw [if_pos c5] at H
         have c5b0:decide (0≤x4_1)=true:=decide_eq_true c5
         clear c5
         by_cases c6:x4_1 < (l0.length:Int)
         ·rw [if_pos c6] at H
          have c6b0:decide (x4_1 < (l0.length:Int))=true:=decide_eq_true c6
          clear c6
          by_cases c7:(rd l0 x6_2)≥(rd l0 x4_1)
          ·rw [if_pos c7] at H
           have c7b0:decide ((rd l0 x4_1)≤(rd l0 x6_2))=true:=decide_eq_true c7
           clear c7
           have H':=sd H
           clear H
           have p162:0≤(x6_2:Int):=of_decide_eq_true (by (with_reducible assumption))
           have q162:x6_2 < (l0.length:Int):=of_decide_eq_true (by (with_reducible assumption))
           obtain ⟨ad162,e162,hx162_0⟩:=Kd.at_int HR0.out x6_2 p162 q162
           cases e162
           replace hx162_0:=(HB.out.cell (World.block_lt_of_cell? w _ hx162_0)).trans hx162_0
           replace p162:=eq_true p162
           replace q162:=eq_true q162
           have p163:0≤(x4_1:Int):=of_decide_eq_true (by (with_reducible assumption))
           have q163:x4_1 < (l0.length:Int):=of_decide_eq_true (by (with_reducible assumption))
           obtain ⟨ad163,e163,hx163_0⟩:=Kd.at_int HR0.out x4_1 p163 q163
           obtain rfl:ad162=ad163:=(by injection e163)
           replace hx163_0:=(HB.out.cell (World.block_lt_of_cell? w _ hx163_0)).trans hx163_0
           replace p163:=eq_true p163
           replace q163:=eq_true q163
           go_wp2
           repeat (go_quiet (fail);try go_wp2)
           go_roundg k2
           case measure=>have:=HK1.out;have:=HK2.out;omega
           case rel=>exact ⟨(wrap64 (x5_2+1)),(wrap64 (x6_2+1)),(by rfl),(by rfl),H',⟨by have:=HK1.out;have:=HK2.out;omega⟩,⟨by repeat ((with_reducible first | exact HB.out | apply pw_below_drewN))⟩⟩
          ·rw [if_neg c7] at H
           have c7b0:decide ((rd l0 x4_1)≤(rd l0 x6_2))=false:=decide_eq_false c7
           clear c7
           have H':=sd H
           clear H
           have p162:0≤(x6_2:Int):=of_decide_eq_true (by (with_reducible assumption))
           have q162:x6_2 < (l0.length:Int):=of_decide_eq_true (by (with_reducible assumption))
           obtain ⟨ad162,e162,hx162_0⟩:=Kd.at_int HR0.out x6_2 p162 q162
           cases e162
           replace hx162_0:=(HB.out.cell (World.block_lt_of_cell? w _ hx162_0)).trans hx162_0
           replace p162:=eq_true p162
           replace q162:=eq_true q162
           have p163:0≤(x4_1:Int):=of_decide_eq_true (by (with_reducible assumption))
           have q163:x4_1 < (l0.length:Int):=of_decide_eq_true (by (with_reducible assumption))
           obtain ⟨ad163,e163,hx163_0⟩:=Kd.at_int HR0.out x4_1 p163 q163
           obtain rfl:ad162=ad163:=(by injection e163)
           replace hx163_0:=(HB.out.cell (World.block_lt_of_cell? w _ hx163_0)).trans hx163_0
           replace p163:=eq_true p163
           replace q163:=eq_true q163
           go_wp2
           repeat (go_quiet (fail);try go_wp2)
           go_roundg k2
           case measure=>have:=HK1.out;have:=HK2.out;omega
           case rel=>exact ⟨(x5_2),(wrap64 (x6_2+1)),(by rfl),(by rfl),H',⟨by have:=HK1.out;have:=HK2.out;omega⟩,⟨by repeat ((with_reducible first | exact HB.out | apply pw_below_drewN))⟩⟩
         ·rw [if_neg c6] at H
          exact absurd H (by simp)
        ·rw [if_neg c5] at H
         exact absurd H (by simp)
       ·rw [if_neg c4] at H
        exact absurd H (by simp)
      ·rw [if_neg c3] at H
       have c3b0:decide (x6_2 < (l0.length:Int))=false:=decide_eq_false c3
       clear c3
       replace H:=Option.bind_eq_some_iff.mp H
       obtain ⟨t164,A80,H⟩:=H
       replace H:(if x5_2≥t164 then (if 0≤x4_1 then (if x4_1 < (l0.length:Int) then (sextonref22_Commit.l0 k2 l0 (mx x3_1 (rd l0 x4_1)) (wrap64 (x4_1+1))) else (none)) else (none)) else (sextonref22_Commit.l0 k2 l0 x3_1 (wrap64 (x4_1+1))))=some r:=H
       have A8:=sd A80
       clear A80
       by_cases c9:x5_2≥t164
       ·rw [if_pos c9] at H
        have c9b0:decide (t164≤x5_2)=true:=decide_eq_true c9
        clear c9
        by_cases c10:0≤x4_1
        ·rw [if_pos c10] at H
         have c10b0:decide (0≤x4_1)=true:=decide_eq_true c10
         clear c10
         by_cases c11:x4_1 < (l0.length:Int)
         ·rw [if_pos c11] at H
          have c11b0:decide (x4_1 < (l0.length:Int))=true:=decide_eq_true c11
          clear c11
          obtain ⟨ji12,hji12⟩:∃ j_:Int,(mx x3_1 (rd l0 x4_1))=j_:=⟨_,rfl⟩
          replace H:(sextonref22_Commit.l0 k2 l0 ji12 (wrap64 (x4_1+1)))=some r:=by (rw [hji12] at H;exact H)
          skip
          have hji12_:(if x3_1 < (rd l0 x4_1) then (rd l0 x4_1) else x3_1)=ji12:=hji12
          have H':=sd H
          clear H
          go_wp2_with ((go_at_call 90;(with_reducible refine (sextonref22_Majority.calls (l0.length:Int) t164 _ A8.out).mono ?_);rintro e w' ⟨rfl,⟨nd,rfl⟩⟩;(try (exact ⟨rfl,_,World.drewN_drewN _ _ _⟩));have p165:0≤(x4_1:Int):=of_decide_eq_true (by (with_reducible assumption));have q165:x4_1 < (l0.length:Int):=of_decide_eq_true (by (with_reducible assumption));obtain ⟨ad165,e165,hx165_0⟩:=Kd.at_int HR0.out x4_1 p165 q165;cases e165;replace hx165_0:=(HB.out.cell (World.block_lt_of_cell? w _ hx165_0)).trans hx165_0;replace p165:=eq_true p165;replace q165:=eq_true q165))
          repeat (go_quiet (fail);try go_wp2_with (fail))
          go_roundg k2
          case measure=>have:=HK1.out;have:=HK2.out;omega
          case rel=>exact ⟨(ji12),(wrap64 (x4_1+1)),(by rfl),(by rfl),H',⟨by have:=HK1.out;have:=HK2.out;omega⟩,⟨by repeat ((with_reducible first | exact HB.out | apply pw_below_drewN))⟩⟩
         ·rw [if_neg c11] at H
          exact absurd H (by simp)
        ·rw [if_neg c10] at H
         exact absurd H (by simp)
       ·rw [if_neg c9] at H
        have c9b0:decide (t164≤x5_2)=false:=decide_eq_false c9
        clear c9
        have H':=sd H
        clear H
        go_wp2_with ((go_at_call 90;(with_reducible refine (sextonref22_Majority.calls (l0.length:Int) t164 _ A8.out).mono ?_);rintro e w' ⟨rfl,⟨nd,rfl⟩⟩;(try (exact ⟨rfl,_,World.drewN_drewN _ _ _⟩))))
        repeat (go_quiet (fail);try go_wp2_with (fail))
        go_roundg k2
        case measure=>have:=HK1.out;have:=HK2.out;omega
        case rel=>exact ⟨(x3_1),(wrap64 (x4_1+1)),(by rfl),(by rfl),H',⟨by have:=HK1.out;have:=HK2.out;omega⟩,⟨by repeat ((with_reducible first | exact HB.out | apply pw_below_drewN))⟩⟩
   ·rw [if_neg c2] at H
    have c2b0:decide (x4_1 < (l0.length:Int))=false:=decide_eq_false c2
    clear c2
    obtain rfl:=Option.some.inj H
    go_wp2
    repeat (go_quiet (fail);try go_wp2)
    go_ret
    exact ⟨by rfl,HB.out⟩
def sextonref23_Prepare.f (a0:Int) (a1:Int) (a2:Int) (a3:Int) (l4:List ByteArray):Option (Int×Int×Int×Int×Int×Int×Int×List ByteArray):=(sextonref01_Own.f l4).bind fun t172=>(some (1,a0,a1,a2,0,a3,0,t172))
theorem sextonref23_Prepare.calls (a0:Int) (a1:Int) (a2:Int) (a3:Int) (A4:Option Addr) (c4:Nat) (l4:List ByteArray) (r1:Int) (r2:Int) (r3:Int) (r4:Int) (r5:Int) (r6:Int) (r7:Int) (r8:List ByteArray) (w:World) (hr4:Kd.C Kd.string w A4 l4.length l4) (hc4:l4.length≤c4) (h:sextonref23_Prepare.f a0 a1 a2 a3 l4=some (r1,r2,r3,r4,r5,r6,r7,r8)) :
  Calls Tryz.prog 72 #[a0,a1,a2,a3,.slice A4 l4.length c4] w fun e w'=>∃ v7_:Value,e=.returned (.agg #[r1,r2,r3,r4,r5,r6,r7,v7_])∧Kd.R Kd.string 9 w' w.heap.size (fun _=>True) v7_ r8∧Below w.heap.size w w':=by
 have hu28:=Tryz.underlying28
 have HR4:=sd hr4
 have HC4:=sd hc4
 clear hr4 hc4
 have HB:=sd (Below.refl w.heap.size w)
 have H:((sextonref01_Own.f l4).bind fun t172=>(some (1,a0,a1,a2,0,a3,0,t172)))=some (r1,r2,r3,r4,r5,r6,r7,r8):=h
 clear h
 replace H:=Option.bind_eq_some_iff.mp H
 obtain ⟨t172,A60,H⟩:=H
 replace H:(some (1,a0,a1,a2,0,a3,0,t172))=some (r1,r2,r3,r4,r5,r6,r7,r8):=H
 have A6:=sd A60
 clear A60
 simp only [Option.some.injEq,Prod.mk.injEq] at H
 obtain ⟨rfl,rfl,rfl,rfl,rfl,rfl,rfl,rfl⟩:=H
 go_enter Tryz.func72,Tryz.ntmps72
 go_wp2_with (first | ((with_reducible refine gate_dst (N:=10) rfl ?_);refine box_event ?hg (N:=10) ?hd (cs:=#[.int .i64 0,.int .i64 0,.int .i64 0,.int .i64 0,.int .i64 0,.int .i64 0,.int .i64 0,.slice none 0 0]) (t:=28) ?hr ?_;(case hd=>rfl);(case hg=>rfl);(case hr=>(go_simp;done));intro gb171 hg w7 hbox hb;have BK171:=sd (hbox);have GW171:=sd ((by rw [hg];exact (below_size HB.out):w.heap.size≤gb171));have GE171:=sd ((by rw [hg];exact (below_size HB.out):w.heap.size≤gb171));replace HB:=sd (below_step HB.out hb);clear hb hbox hg) | ((with_reducible refine gate_callee (f:=24) rfl ?_);refine goesL_ (some 16) rfl rfl Tryz.func24 (by kernel_rfl) rfl #[.slice A4 l4.length c4] rfl (by (try simp only [List.map_toArray,List.map_cons,List.map_nil]);rfl) ?_;(with_reducible refine (sextonref01_Own.calls _ _ l4 t172 _ ?side1 ?side2 A6.out).mono ?_);(case side1=>exact (Kd.C_below HR4.out HB.out));(case side2=>exact HC4.out);rintro e w8 ⟨v173,rfl,ho0,hb⟩;refine ⟨_,rfl,?_⟩;have HO174:=sd (Kd.R_lower ho0 (below_size HB.out));replace BK171:=sd (blk_below BK171.out hb);replace HB:=sd (below_step HB.out hb);(try clear hb);(try clear ho0);obtain ⟨Ao9,co9,eo9⟩:=Kd.R_slice HO174.out;subst eo9;obtain ⟨hcz10_0,hcz10_1,hcz10_2,hcz10_3,hcz10_4,hcz10_5,hcz10_6,hcz10_7⟩:=cells8 BK171.out;have hfz10:=fr_of BK171.out))
 refine bodyPost_ret (results_cell_row rfl _ _ gb171 28 #[.int .i64 1,a0,a1,a2,.int .i64 0,a3,.int .i64 0,.slice Ao9 t172.length co9] (0,0) _ rfl (by (with_reducible repeat (fail));refine blk_put (cs:=#[.int .i64 1,a0,a1,a2,.int .i64 0,a3,.int .i64 0,.slice none 0 0]) ?_ 7 _ rfl;(with_reducible repeat (fail));refine blk_put (cs:=#[.int .i64 1,a0,a1,a2,.int .i64 0,a3,.int .i64 0,.slice none 0 0]) ?_ 6 _ rfl;(with_reducible repeat (fail));refine blk_put (cs:=#[.int .i64 1,a0,a1,a2,.int .i64 0,.int .i64 0,.int .i64 0,.slice none 0 0]) ?_ 5 _ rfl;(with_reducible repeat (fail));refine blk_put (cs:=#[.int .i64 1,a0,a1,a2,.int .i64 0,.int .i64 0,.int .i64 0,.slice none 0 0]) ?_ 4 _ rfl;(with_reducible repeat (fail));refine blk_put (cs:=#[.int .i64 1,a0,a1,.int .i64 0,.int .i64 0,.int .i64 0,.int .i64 0,.slice none 0 0]) ?_ 3 _ rfl;(with_reducible repeat (fail));refine blk_put (cs:=#[.int .i64 1,a0,.int .i64 0,.int .i64 0,.int .i64 0,.int .i64 0,.int .i64 0,.slice none 0 0]) ?_ 2 _ rfl;(with_reducible repeat (fail));refine blk_put (cs:=#[.int .i64 1,.int .i64 0,.int .i64 0,.int .i64 0,.int .i64 0,.int .i64 0,.int .i64 0,.slice none 0 0]) ?_ 1 _ rfl;(with_reducible repeat (fail));refine blk_put (cs:=#[.int .i64 0,.int .i64 0,.int .i64 0,.int .i64 0,.int .i64 0,.int .i64 0,.int .i64 0,.slice none 0 0]) ?_ 0 _ rfl;(with_reducible repeat (fail));exact BK171.out) Tryz.underlying28 rfl (by kernel_rfl)) rfl ?_
 exact ⟨_,by rfl,by (with_reducible repeat (fail));exact Kd.R_mono (Kd.R_far (p:=⟨gb171,7,none⟩) (Kd.R_far (p:=⟨gb171,6,none⟩) (Kd.R_far (p:=⟨gb171,5,none⟩) (Kd.R_far (p:=⟨gb171,4,none⟩) (Kd.R_far (p:=⟨gb171,3,none⟩) (Kd.R_far (p:=⟨gb171,2,none⟩) (Kd.R_far (p:=⟨gb171,1,none⟩) (Kd.R_far (p:=⟨gb171,0,none⟩) (Kd.R_types HO174.out BK171.out (by decide)) (fun _ hk=>hk.2) (.int .i64 1)) (fun _ hk=>hk.2) a0) (fun _ hk=>hk.2) a1) (fun _ hk=>hk.2) a2) (fun _ hk=>hk.2) (.int .i64 0)) (fun _ hk=>hk.2) a3) (fun _ hk=>hk.2) (.int .i64 0)) (fun _ hk=>hk.2) (.slice Ao9 t172.length co9)) (fun _ hk=>trivial),by repeat ((with_reducible first | exact HB.out | refine below_set ?_ GE171.out))⟩
end
end Go.Proofs.YtfpfpckocemmdaaGreat.P
