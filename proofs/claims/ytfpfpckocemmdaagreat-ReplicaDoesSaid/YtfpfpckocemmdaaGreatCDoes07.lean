/- Part 7 of the walk. -/
import Derived.Test.YtfpfpckocemmdaaGreatCDoes05
set_option linter.unusedVariables false
set_option linter.unusedSimpArgs false
set_option maxHeartbeats 8000000
set_option maxRecDepth 100000
namespace Go.Proofs.YtfpfpckocemmdaaGreat.P
open Go.RowKit Go.Proofs.YtfpfpckocemmdaaGreatW.PrintWords Go.Proofs.YtfpfpckocemmdaaGreatW.PrintLast Go.Proofs.YtfpfpckocemmdaaGreatW.PrintMore
section
attribute [local go_sem] max2_int min2_int max_two min_two max_three min_three max_four min_four   -- for this text's walks alone
def sextonref01_Short.l0:Nat→List ByteArray→Int→Option (Bool)
 | 0,_,_=>none
 | k+1,x0,x3=>if x3 < (x0.length:Int) then (if 0≤x3 then (if ((rdOf ByteArray.empty x0 x3).size:Int) > 300 then (some false) else (sextonref01_Short.l0 k x0 (wrap64 (x3+1)))) else (none)) else (some true)
def sextonref01_Short.f (k:Nat) (l0:List ByteArray):Option (Bool):=sextonref01_Short.l0 k l0 0
theorem sextonref01_Short.calls (k:Nat) (A0:Option Addr) (c0:Nat) (l0:List ByteArray) (r:Bool) (w:World) (hr0:Kd.C Kd.string w A0 l0.length l0) (hc0:l0.length≤c0) (h:sextonref01_Short.f k l0=some r) :
  Calls Tryz.prog 87 #[.slice A0 l0.length c0] w fun e w'=>e=.returned r∧Drawn0 w w':=by
 have HR0:=sd hr0
 have HC0:=sd hc0
 clear hr0 hc0
 have H:(sextonref01_Short.l0 k l0 0)=some r:=h
 clear h
 have H':=sd H
 clear H
 go_enter Tryz.func87,Tryz.ntmps87
 go_wp2
 go_loopg [3] k (fun kq v3 w'=>∃ (x3_1:Int),v3=.int .i64 x3_1∧Aside0 (sextonref01_Short.l0 kq l0 x3_1=some r)∧Aside0 (kq≤k)∧Drawn0 w w')
 case atStart=>exact ⟨(0),(by rfl),H',⟨Nat.le_refl _⟩,by repeat ((exact Drawn0.refl _))⟩
 case round =>
  clear H'
  obtain ⟨x3_1,rfl,HA,HK1,⟨m1,rfl⟩⟩:=hrel
  cases gk with
  | zero=>exact absurd HA.out (by simp [sextonref01_Short.l0])
  | succ k1 =>
   have H:=HA.out
   clear HA
   simp only [sextonref01_Short.l0] at H
   by_cases c2:x3_1 < (l0.length:Int)
   ·rw [if_pos c2] at H
    have c2b0:decide (x3_1 < (l0.length:Int))=true:=decide_eq_true c2
    clear c2
    by_cases c3:0≤x3_1
    ·rw [if_pos c3] at H
     have c3b0:decide (0≤x3_1)=true:=decide_eq_true c3
     clear c3
     by_cases c4:((rdOf ByteArray.empty l0 x3_1).size:Int) > 300
     ·rw [if_pos c4] at H
      have c4b0:decide (300 < ((rdOf ByteArray.empty l0 x3_1).size:Int))=true:=decide_eq_true c4
      have c4b1:decide (300 < (rdOf ByteArray.empty l0 x3_1).size)=true:=decide_eq_true (by omega)
      clear c4
      obtain rfl:=Option.some.inj H
      have p101:0≤(x3_1:Int):=of_decide_eq_true (by (with_reducible assumption))
      have q101:x3_1 < (l0.length:Int):=of_decide_eq_true (by (with_reducible assumption))
      obtain ⟨ad101,e101,hx101_0⟩:=Kd.at_string HR0.out x3_1 p101 q101
      cases e101
      replace p101:=eq_true p101
      replace q101:=eq_true q101
      go_wp2
      go_ret
      exact ⟨by rfl,by repeat (first | exact Drawn0.refl _ | apply Drawn0.step)⟩
     ·rw [if_neg c4] at H
      have c4b0:decide (300 < ((rdOf ByteArray.empty l0 x3_1).size:Int))=false:=decide_eq_false c4
      have c4b1:decide (300 < (rdOf ByteArray.empty l0 x3_1).size)=false:=decide_eq_false (by omega)
      clear c4
      have H':=sd H
      clear H
      have p101:0≤(x3_1:Int):=of_decide_eq_true (by (with_reducible assumption))
      have q101:x3_1 < (l0.length:Int):=of_decide_eq_true (by (with_reducible assumption))
      obtain ⟨ad101,e101,hx101_0⟩:=Kd.at_string HR0.out x3_1 p101 q101
      cases e101
      replace p101:=eq_true p101
      replace q101:=eq_true q101
      go_wp2
      go_roundg k1
      case measure=>have:=HK1.out;omega
      case rel=>exact ⟨(wrap64 (x3_1+1)),(by rfl),H',⟨by have:=HK1.out;omega⟩,by repeat (first | exact Drawn0.refl _ | apply Drawn0.step)⟩
    ·rw [if_neg c3] at H
     exact absurd H (by simp)
   ·rw [if_neg c2] at H
    have c2b0:decide (x3_1 < (l0.length:Int))=false:=decide_eq_false c2
    clear c2
    obtain rfl:=Option.some.inj H
    go_wp2
    go_ret
    exact ⟨by rfl,by repeat (first | exact Drawn0.refl _ | apply Drawn0.step)⟩
mutual
def sextonref22_Big.l0:Nat→List (S63)→Int→Option (Bool)
 | 0,_,_=>none
 | k+1,x0,x3=>if x3 < (x0.length:Int) then (sextonref22_Big.j1 k x0 x3 (decide ((x0.length:Int)≤30))) else (sextonref22_Big.j1 k x0 x3 false)
def sextonref22_Big.j1:Nat→List (S63)→Int→Bool→Option (Bool)
 | 0,_,_,_=>none
 | k+1,x0,x3,x12=>if x12=true then (if 0≤x3 then (if x3 < (x0.length:Int) then ((sextonref01_Short.f k ((rd_T63 x0 x3).f3)).bind fun t103=>(if t103=true then (if (((rd_T63 x0 x3).f3).length:Int) > 70 then (some true) else (sextonref22_Big.l0 k x0 (wrap64 (x3+1)))) else (some true))) else (none)) else (none)) else (some (decide ((x0.length:Int) > 30)))
end
def sextonref22_Big.f (k:Nat) (l0:List (S63)):Option (Bool):=sextonref22_Big.l0 k l0 0
theorem sextonref22_Big.calls (k:Nat) (A0:Option Addr) (c0:Nat) (l0:List (S63)) (r:Bool) (w:World) (hr0:Kd.C k63 w A0 l0.length l0) (hc0:l0.length≤c0) (h:sextonref22_Big.f k l0=some r) :
  Calls Tryz.prog 64 #[.slice A0 l0.length c0] w fun e w'=>e=.returned r∧Drawn0 w w':=by
 have HR0:=sd hr0
 have HC0:=sd hc0
 clear hr0 hc0
 have H:(sextonref22_Big.l0 k l0 0)=some r:=h
 clear h
 have H':=sd H
 clear H
 go_enter Tryz.func64,Tryz.ntmps64
 go_wp2
 go_loopg [3] k (fun kq v3 w'=>∃ (x3_1:Int),v3=.int .i64 x3_1∧Aside0 (sextonref22_Big.l0 kq l0 x3_1=some r)∧Aside0 (kq≤k)∧Drawn0 w w')
 case atStart=>exact ⟨(0),(by rfl),H',⟨Nat.le_refl _⟩,by repeat ((exact Drawn0.refl _))⟩
 case round =>
  clear H'
  obtain ⟨x3_1,rfl,HA,HK1,⟨m1,rfl⟩⟩:=hrel
  cases gk with
  | zero=>exact absurd HA.out (by simp [sextonref22_Big.l0])
  | succ k1 =>
   have H:=HA.out
   clear HA
   simp only [sextonref22_Big.l0] at H
   have HC2:=sd H
   clear H
   go_upto_region 2 with (fail)
   go_cut [12] (fun v12 wc=>∃ (kq:Nat) (x12_1:Bool),v12=.bool x12_1∧Aside0 (sextonref22_Big.j1 kq l0 x3_1 x12_1=some r)∧Aside0 (kq≤k1)∧Drawn0 w wc)
   case first =>
    have H:=HC2.out
    clear HC2
    by_cases c3:x3_1 < (l0.length:Int)
    ·rw [if_pos c3] at H
     have c3b0:decide (x3_1 < (l0.length:Int))=true:=decide_eq_true c3
     clear c3
     (skip)
     have H':=sd H
     clear H
     go_wp2
     go_meet
     case rel=>exact ⟨_,(decide ((l0.length:Int)≤30)),(by rfl),H',⟨by have:=HK1.out;omega⟩,by repeat (first | exact Drawn0.refl _ | apply Drawn0.step)⟩
    ·rw [if_neg c3] at H
     have c3b0:decide (x3_1 < (l0.length:Int))=false:=decide_eq_false c3
     clear c3
     (skip)
     have H':=sd H
     clear H
     go_wp2
     go_meet
     case rel=>exact ⟨_,(false),(by rfl),H',⟨by have:=HK1.out;omega⟩,by repeat (first | exact Drawn0.refl _ | apply Drawn0.step)⟩
   case rest =>
    clear HC2
    obtain ⟨kq,x12_1,rfl,HA,HJ1,⟨mc1,rfl⟩⟩:=hcut
    cases kq with
    | zero=>exact absurd HA.out (by simp [sextonref22_Big.j1])
    | succ kj1 =>
     have H:=HA.out
     clear HA
     simp only [sextonref22_Big.j1] at H
     by_cases c4:x12_1=true
     ·subst c4
      rw [if_pos rfl] at H
      by_cases c5:0≤x3_1
      ·rw [if_pos c5] at H
       have c5b0:decide (0≤x3_1)=true:=decide_eq_true c5
       clear c5
       by_cases c6:x3_1 < (l0.length:Int)
       ·rw [if_pos c6] at H
        have c6b0:decide (x3_1 < (l0.length:Int))=true:=decide_eq_true c6
        clear c6
        replace H:=Option.bind_eq_some_iff.mp H
        obtain ⟨t103,A70,H⟩:=H
        replace H:(if t103=true then (if (((rd_T63 l0 x3_1).f3).length:Int) > 70 then (some true) else (sextonref22_Big.l0 kj1 l0 (wrap64 (x3_1+1)))) else (some true))=some r:=H
        have A7:=sd A70
        clear A70
        by_cases c8:t103=true
        ·subst c8
         rw [if_pos rfl] at H
         by_cases c9:(((rd_T63 l0 x3_1).f3).length:Int) > 70
         ·rw [if_pos c9] at H
          have c9b0:decide (70 < (((rd_T63 l0 x3_1).f3).length:Int))=true:=decide_eq_true c9
          have c9b1:decide (70 < ((rd_T63 l0 x3_1).f3).length)=true:=decide_eq_true (by omega)
          clear c9
          obtain rfl:=Option.some.inj H
          have p102:0≤(x3_1:Int):=of_decide_eq_true (by (with_reducible assumption))
          have q102:x3_1 < (l0.length:Int):=of_decide_eq_true (by (with_reducible assumption))
          obtain ⟨ad102,A102_3,c102_3,e102,hx102_0,hx102_1,hx102_2,hx102_3,hl102_3,hi102_3⟩:=at_T63 HR0.out x3_1 p102 q102
          cases e102
          have HR102_3:=sd hi102_3
          have HC102_3:=sd hl102_3
          clear hi102_3 hl102_3
          replace p102:=eq_true p102
          replace q102:=eq_true q102
          go_wp2_with (((with_reducible refine gate_callee (f:=87) rfl ?_);refine goesL_ (some 20) rfl rfl Tryz.func87 (by kernel_rfl) rfl #[.slice A102_3 ((rd_T63 l0 x3_1).f3).length c102_3] rfl (by (try simp only [List.map_toArray,List.map_cons,List.map_nil]);rfl) ?_;(with_reducible refine (sextonref01_Short.calls kj1 _ _ ((rd_T63 l0 x3_1).f3) true _ ?side1 ?side2 A7.out).mono ?_);(case side1=>exact HR102_3.out);(case side2=>exact HC102_3.out);rintro e w' ⟨rfl,⟨nd,rfl⟩⟩;refine ⟨_,rfl,?_⟩;have p104:0≤(x3_1:Int):=of_decide_eq_true (by (with_reducible assumption));have q104:x3_1 < (l0.length:Int):=of_decide_eq_true (by (with_reducible assumption));obtain ⟨ad104,A104_3,c104_3,e104,hx104_0,hx104_1,hx104_2,hx104_3,hl104_3,hi104_3⟩:=at_T63 HR0.out x3_1 p104 q104;obtain rfl:ad102=ad104:=(by injection e104);have HR104_3:=sd hi104_3;have HC104_3:=sd hl104_3;clear hi104_3 hl104_3;replace p104:=eq_true p104;replace q104:=eq_true q104;have ea_:=Option.some.inj (hx102_3.symm.trans hx104_3);injection ea_ with ea_ en_ ec_;subst ea_;subst ec_;clear en_))
          go_ret
          exact ⟨by rfl,by repeat (first | exact Drawn0.refl _ | apply Drawn0.step)⟩
         ·rw [if_neg c9] at H
          have c9b0:decide (70 < (((rd_T63 l0 x3_1).f3).length:Int))=false:=decide_eq_false c9
          have c9b1:decide (70 < ((rd_T63 l0 x3_1).f3).length)=false:=decide_eq_false (by omega)
          clear c9
          have H':=sd H
          clear H
          have p102:0≤(x3_1:Int):=of_decide_eq_true (by (with_reducible assumption))
          have q102:x3_1 < (l0.length:Int):=of_decide_eq_true (by (with_reducible assumption))
          obtain ⟨ad102,A102_3,c102_3,e102,hx102_0,hx102_1,hx102_2,hx102_3,hl102_3,hi102_3⟩:=at_T63 HR0.out x3_1 p102 q102
          cases e102
          have HR102_3:=sd hi102_3
          have HC102_3:=sd hl102_3
          clear hi102_3 hl102_3
          replace p102:=eq_true p102
          replace q102:=eq_true q102
          go_wp2_with (((with_reducible refine gate_callee (f:=87) rfl ?_);refine goesL_ (some 20) rfl rfl Tryz.func87 (by kernel_rfl) rfl #[.slice A102_3 ((rd_T63 l0 x3_1).f3).length c102_3] rfl (by (try simp only [List.map_toArray,List.map_cons,List.map_nil]);rfl) ?_;(with_reducible refine (sextonref01_Short.calls kj1 _ _ ((rd_T63 l0 x3_1).f3) true _ ?side1 ?side2 A7.out).mono ?_);(case side1=>exact HR102_3.out);(case side2=>exact HC102_3.out);rintro e w' ⟨rfl,⟨nd,rfl⟩⟩;refine ⟨_,rfl,?_⟩;have p104:0≤(x3_1:Int):=of_decide_eq_true (by (with_reducible assumption));have q104:x3_1 < (l0.length:Int):=of_decide_eq_true (by (with_reducible assumption));obtain ⟨ad104,A104_3,c104_3,e104,hx104_0,hx104_1,hx104_2,hx104_3,hl104_3,hi104_3⟩:=at_T63 HR0.out x3_1 p104 q104;obtain rfl:ad102=ad104:=(by injection e104);have HR104_3:=sd hi104_3;have HC104_3:=sd hl104_3;clear hi104_3 hl104_3;replace p104:=eq_true p104;replace q104:=eq_true q104;have ea_:=Option.some.inj (hx102_3.symm.trans hx104_3);injection ea_ with ea_ en_ ec_;subst ea_;subst ec_;clear en_))
          go_roundg kj1
          case measure=>have:=HK1.out;have:=HJ1.out;omega
          case rel=>exact ⟨(wrap64 (x3_1+1)),(by rfl),H',⟨by have:=HK1.out;have:=HJ1.out;omega⟩,by repeat (first | exact Drawn0.refl _ | apply Drawn0.step)⟩
        ·replace c8:=Bool.eq_false_iff.mpr c8
         subst c8
         rw [if_neg (show ¬ (false=true) by decide)] at H
         obtain rfl:=Option.some.inj H
         have p102:0≤(x3_1:Int):=of_decide_eq_true (by (with_reducible assumption))
         have q102:x3_1 < (l0.length:Int):=of_decide_eq_true (by (with_reducible assumption))
         obtain ⟨ad102,A102_3,c102_3,e102,hx102_0,hx102_1,hx102_2,hx102_3,hl102_3,hi102_3⟩:=at_T63 HR0.out x3_1 p102 q102
         cases e102
         have HR102_3:=sd hi102_3
         have HC102_3:=sd hl102_3
         clear hi102_3 hl102_3
         replace p102:=eq_true p102
         replace q102:=eq_true q102
         go_wp2_with (((with_reducible refine gate_callee (f:=87) rfl ?_);refine goesL_ (some 20) rfl rfl Tryz.func87 (by kernel_rfl) rfl #[.slice A102_3 ((rd_T63 l0 x3_1).f3).length c102_3] rfl (by (try simp only [List.map_toArray,List.map_cons,List.map_nil]);rfl) ?_;(with_reducible refine (sextonref01_Short.calls kj1 _ _ ((rd_T63 l0 x3_1).f3) false _ ?side1 ?side2 A7.out).mono ?_);(case side1=>exact HR102_3.out);(case side2=>exact HC102_3.out);rintro e w' ⟨rfl,⟨nd,rfl⟩⟩;refine ⟨_,rfl,?_⟩))
         go_ret
         exact ⟨by rfl,by repeat (first | exact Drawn0.refl _ | apply Drawn0.step)⟩
       ·rw [if_neg c6] at H
        exact absurd H (by simp)
      ·rw [if_neg c5] at H
       exact absurd H (by simp)
     ·replace c4:=Bool.eq_false_iff.mpr c4
      subst c4
      rw [if_neg (show ¬ (false=true) by decide)] at H
      obtain rfl:=Option.some.inj H
      go_wp2
      go_ret
      exact ⟨by rfl,by repeat (first | exact Drawn0.refl _ | apply Drawn0.step)⟩
def sextonref24_Big.f (k:Nat) (a0_0:Int) (a0_1:Int) (a0_2:Int) (a0_3:Int) (a0_4:Bool) (a0_5:Int) (l0_6:List ByteArray) (l0_7:List Int) (l0_8:List (S63)):Option (Bool):=(sextonref22_Big.f k (([(⟨0,0,0,l0_6⟩:S63)]:List (S63)))).bind fun t109=>(if t109=true then (some true) else ((sextonref22_Big.f k l0_8).bind fun t110=>(if t110=true then (some true) else (some (decide ((l0_7.length:Int) > 30))))))
theorem sextonref24_Big.calls (k:Nat) (a0_0:Int) (a0_1:Int) (a0_2:Int) (a0_3:Int) (a0_4:Bool) (a0_5:Int) (P0_6_:Nat→Prop) (A0_6:Option Addr) (c0_6:Nat) (l0_6:List ByteArray) (A0_7:Option Addr) (c0_7:Nat) (l0_7:List Int) (A0_8:Option Addr) (c0_8:Nat) (l0_8:List (S63)) (r:Bool) (w:World) (hs0_6:Kd.V Kd.string 9 w w.heap.size (fun k_=>P0_6_ k_) (.slice A0_6 l0_6.length c0_6) l0_6) (hr0_7:Kd.C (Kd.int .i64) w A0_7 l0_7.length l0_7) (hc0_7:l0_7.length≤c0_7) (hr0_8:Kd.C k63 w A0_8 l0_8.length l0_8) (hc0_8:l0_8.length≤c0_8) (h:sextonref24_Big.f k a0_0 a0_1 a0_2 a0_3 a0_4 a0_5 l0_6 l0_7 l0_8=some r) :
  Calls Tryz.prog 22 #[.agg #[a0_0,a0_1,a0_2,a0_3,a0_4,a0_5,.slice A0_6 l0_6.length c0_6,.slice A0_7 l0_7.length c0_7,.slice A0_8 l0_8.length c0_8]] w fun e w'=>e=.returned r∧Below w.heap.size w w':=by
 have hu26:=Tryz.underlying26
 have hu63:=Tryz.underlying63
 have HO0_6:=sd (show Kd.V Kd.string 9 w w.heap.size (fun k_=>(P0_6_ k_∨w.heap.size≤k_)) (.slice A0_6 l0_6.length c0_6) l0_6 from Kd.V_mono hs0_6 (fun k_ hk=>.inl hk))
 have HR0_7:=sd hr0_7
 have HC0_7:=sd hc0_7
 clear hr0_7 hc0_7
 have HR0_8:=sd hr0_8
 have HC0_8:=sd hc0_8
 clear hr0_8 hc0_8
 have HB:=sd (Below.refl w.heap.size w)
 have H:((sextonref22_Big.f k (([(⟨0,0,0,l0_6⟩:S63)]:List (S63)))).bind fun t109=>(if t109=true then (some true) else ((sextonref22_Big.f k l0_8).bind fun t110=>(if t110=true then (some true) else (some (decide ((l0_7.length:Int) > 30)))))))=some r:=h
 clear h
 obtain ⟨y106,hy106⟩:∃ y_:List (S63),y_=(([(⟨0,0,0,l0_6⟩:S63)]:List (S63))):=⟨_,rfl⟩
 replace H:((sextonref22_Big.f k y106).bind fun t109=>(if t109=true then (some true) else ((sextonref22_Big.f k l0_8).bind fun t110=>(if t110=true then (some true) else (some (decide ((l0_7.length:Int) > 30)))))))=some r:=by (rw [hy106];with_reducible exact H)
 have Ny106:=sd hy106
 clear hy106
 replace H:=Option.bind_eq_some_iff.mp H
 obtain ⟨t109,A20,H⟩:=H
 replace H:(if t109=true then (some true) else ((sextonref22_Big.f k l0_8).bind fun t110=>(if t110=true then (some true) else (some (decide ((l0_7.length:Int) > 30))))))=some r:=H
 have A2:=sd A20
 clear A20
 by_cases c3:t109=true
 ·subst c3
  rw [if_pos rfl] at H
  obtain rfl:=Option.some.inj H
  go_enter Tryz.func22,Tryz.ntmps22
  go_wp2_with (first | ((with_reducible refine gate_dst (N:=1) rfl ?_);(try (refine gate_guard (by rfl) ?_;dsimp only));refine box_event ?hg (N:=1) ?hd (cs:=#[a0_0,a0_1,a0_2,a0_3,a0_4,a0_5,.slice A0_6 l0_6.length c0_6,.slice A0_7 l0_7.length c0_7,.slice A0_8 l0_8.length c0_8]) (t:=26) ?hr ?_;(case hd=>rfl);(case hg=>rfl);(case hr=>(go_simp;done));intro gb105 hg w4 hbox hb;replace HO0_6:=sd (Kd.V_below (Kd.V_elderB HO0_6.out gb105 (Nat.le_of_eq hg.symm)) hb);have BK105:=sd (hbox);have GW105:=sd ((by rw [hg];exact (below_size HB.out):w.heap.size≤gb105));have GE105:=sd ((by rw [hg];exact (below_size HB.out):w.heap.size≤gb105));replace HB:=sd (below_step HB.out hb);clear hb hbox hg;obtain ⟨hcz5_0,hcz5_1,hcz5_2,hcz5_3,hcz5_4,hcz5_5,hcz5_6,hcz5_7,hcz5_8⟩:=cells9 BK105.out;have hfz5:=fr_of BK105.out) | ((with_reducible refine gate_dst (N:=6) rfl ?_);(try (refine gate_guard (by rfl) ?_;dsimp only));refine Kd.N_lit k63 _ 63 ?hg (N':=6) ?hd (xs:=([(⟨0,0,0,l0_6⟩:S63)]:List (S63))) (inner:=[.int .i64 0,.int .i64 0,.int .i64 0,.slice A0_6 l0_6.length c0_6]) (ok:=(fun k_=>(P0_6_ k_∨w.heap.size≤k_)∧k_≠gb105)) (okp:=(fun k_=>(P0_6_ k_∨w.heap.size≤k_)∧k_≠gb105)) ?hr ?hp (fun _ hk=>hk) ((show ∀ k_,w4.heap.size≤k_→(fun k_=>(P0_6_ k_∨w.heap.size≤k_)∧k_≠gb105) k_ from fun k_ hk=>⟨(.inr (Nat.le_trans (below_size HB.out) hk)),Kd.freshB (g:=gb105) (o:=.cells #[a0_0,a0_1,a0_2,a0_3,a0_4,a0_5,.slice A0_6 l0_6.length c0_6,.slice A0_7 l0_7.length c0_7,.slice A0_8 l0_8.length c0_8] 26 (0,0)) BK105.out k_ hk⟩) _ (Nat.le_refl _)) (Below.refl _ _) (Nat.le_refl _) (by simp) ?_;(case hd=>rfl);(case hg=>rfl);(case hr=>(go_simp;done));(case hp=>exact (Reps.c4 (show Kd.FK k63 _ _ (⟨0,0,0,l0_6⟩:S63) [.int .i64 0,.int .i64 0,.int .i64 0,.slice A0_6 l0_6.length c0_6] from (k63_mkF _ _ (⟨0,0,0,l0_6⟩:S63) (Kd.V_reads' (Kd.V_mono (ok':=(fun k_=>(P0_6_ k_∨w.heap.size≤k_)∧k_≠gb105)) (HO0_6.out) (fun k_ hk=>⟨hk.1,hk.2⟩))).2.1 (Kd.V_F (Kd.V_mono (ok':=(fun k_=>(P0_6_ k_∨w.heap.size≤k_)∧k_≠gb105)) (HO0_6.out) (fun k_ hk=>⟨hk.1,hk.2⟩))))) (Reps.none _ _)));intro v107 w6 ho7 hb hg_ hnew_;clear hg_ hnew_;((rw [← Ny106.out] at ho7));replace HO0_6:=sd (Kd.V_elder' HO0_6.out (Kd.N_base ho7) hb);have HO108:=sd (Kd.N_lower ho7 (below_size HB.out));replace BK105:=sd (blk_below BK105.out hb);replace HB:=sd (below_step HB.out hb);clear hb ho7;obtain ⟨Ao8,co8,eo8⟩:=Kd.N_slice HO108.out;subst eo8) | ((with_reducible refine gate_callee (f:=64) rfl ?_);refine goesL_ (some 7) rfl rfl Tryz.func64 (by kernel_rfl) rfl #[.slice Ao8 y106.length co8] rfl (by (try simp only [List.map_toArray,List.map_cons,List.map_nil]);rfl) ?_;(with_reducible refine (sextonref22_Big.calls k _ _ y106 true _ ?side1 ?side2 A2.out).mono ?_);(case side1=>repeat ((exact (Kd.N_reads' HO108.out).2.2)));(case side2=>exact (Kd.N_reads' HO108.out).2.1);rintro e w' ⟨rfl,⟨nd,rfl⟩⟩;refine ⟨_,rfl,?_⟩))
  go_ret
  exact ⟨by rfl,by repeat ((with_reducible first | exact HB.out | apply pw_below_drewN))⟩
 ·replace c3:=Bool.eq_false_iff.mpr c3
  subst c3
  rw [if_neg (show ¬ (false=true) by decide)] at H
  replace H:=Option.bind_eq_some_iff.mp H
  obtain ⟨t110,A90,H⟩:=H
  replace H:(if t110=true then (some true) else (some (decide ((l0_7.length:Int) > 30))))=some r:=H
  have A9:=sd A90
  clear A90
  by_cases c10:t110=true
  ·subst c10
   rw [if_pos rfl] at H
   obtain rfl:=Option.some.inj H
   go_enter Tryz.func22,Tryz.ntmps22
   go_wp2_with (first | ((with_reducible refine gate_dst (N:=1) rfl ?_);(try (refine gate_guard (by rfl) ?_;dsimp only));refine box_event ?hg (N:=1) ?hd (cs:=#[a0_0,a0_1,a0_2,a0_3,a0_4,a0_5,.slice A0_6 l0_6.length c0_6,.slice A0_7 l0_7.length c0_7,.slice A0_8 l0_8.length c0_8]) (t:=26) ?hr ?_;(case hd=>rfl);(case hg=>rfl);(case hr=>(go_simp;done));intro gb105 hg w11 hbox hb;replace HO0_6:=sd (Kd.V_below (Kd.V_elderB HO0_6.out gb105 (Nat.le_of_eq hg.symm)) hb);have BK105:=sd (hbox);have GW105:=sd ((by rw [hg];exact (below_size HB.out):w.heap.size≤gb105));have GE105:=sd ((by rw [hg];exact (below_size HB.out):w.heap.size≤gb105));replace HB:=sd (below_step HB.out hb);clear hb hbox hg;obtain ⟨hcz12_0,hcz12_1,hcz12_2,hcz12_3,hcz12_4,hcz12_5,hcz12_6,hcz12_7,hcz12_8⟩:=cells9 BK105.out;have hfz12:=fr_of BK105.out) | ((with_reducible refine gate_dst (N:=6) rfl ?_);(try (refine gate_guard (by rfl) ?_;dsimp only));refine Kd.N_lit k63 _ 63 ?hg (N':=6) ?hd (xs:=([(⟨0,0,0,l0_6⟩:S63)]:List (S63))) (inner:=[.int .i64 0,.int .i64 0,.int .i64 0,.slice A0_6 l0_6.length c0_6]) (ok:=(fun k_=>(P0_6_ k_∨w.heap.size≤k_)∧k_≠gb105)) (okp:=(fun k_=>(P0_6_ k_∨w.heap.size≤k_)∧k_≠gb105)) ?hr ?hp (fun _ hk=>hk) ((show ∀ k_,w11.heap.size≤k_→(fun k_=>(P0_6_ k_∨w.heap.size≤k_)∧k_≠gb105) k_ from fun k_ hk=>⟨(.inr (Nat.le_trans (below_size HB.out) hk)),Kd.freshB (g:=gb105) (o:=.cells #[a0_0,a0_1,a0_2,a0_3,a0_4,a0_5,.slice A0_6 l0_6.length c0_6,.slice A0_7 l0_7.length c0_7,.slice A0_8 l0_8.length c0_8] 26 (0,0)) BK105.out k_ hk⟩) _ (Nat.le_refl _)) (Below.refl _ _) (Nat.le_refl _) (by simp) ?_;(case hd=>rfl);(case hg=>rfl);(case hr=>(go_simp;done));(case hp=>exact (Reps.c4 (show Kd.FK k63 _ _ (⟨0,0,0,l0_6⟩:S63) [.int .i64 0,.int .i64 0,.int .i64 0,.slice A0_6 l0_6.length c0_6] from (k63_mkF _ _ (⟨0,0,0,l0_6⟩:S63) (Kd.V_reads' (Kd.V_mono (ok':=(fun k_=>(P0_6_ k_∨w.heap.size≤k_)∧k_≠gb105)) (HO0_6.out) (fun k_ hk=>⟨hk.1,hk.2⟩))).2.1 (Kd.V_F (Kd.V_mono (ok':=(fun k_=>(P0_6_ k_∨w.heap.size≤k_)∧k_≠gb105)) (HO0_6.out) (fun k_ hk=>⟨hk.1,hk.2⟩))))) (Reps.none _ _)));intro v107 w13 ho14 hb hg_ hnew_;clear hg_ hnew_;((rw [← Ny106.out] at ho14));replace HO0_6:=sd (Kd.V_elder' HO0_6.out (Kd.N_base ho14) hb);have HO108:=sd (Kd.N_lower ho14 (below_size HB.out));replace BK105:=sd (blk_below BK105.out hb);replace HB:=sd (below_step HB.out hb);clear hb ho14;obtain ⟨Ao15,co15,eo15⟩:=Kd.N_slice HO108.out;subst eo15) | ((with_reducible refine gate_callee (f:=64) rfl ?_);refine goesL_ (some 7) rfl rfl Tryz.func64 (by kernel_rfl) rfl #[.slice Ao15 y106.length co15] rfl (by (try simp only [List.map_toArray,List.map_cons,List.map_nil]);rfl) ?_;(with_reducible refine (sextonref22_Big.calls k _ _ y106 false _ ?side1 ?side2 A2.out).mono ?_);(case side1=>repeat ((exact (Kd.N_reads' HO108.out).2.2)));(case side2=>exact (Kd.N_reads' HO108.out).2.1);rintro e w' ⟨rfl,⟨nd,rfl⟩⟩;refine ⟨_,rfl,?_⟩;obtain ⟨hcz16_0,hcz16_1,hcz16_2,hcz16_3,hcz16_4,hcz16_5,hcz16_6,hcz16_7,hcz16_8⟩:=cells9 BK105.out;have hfz16:=fr_of BK105.out) | (go_at_call 64;(with_reducible refine (sextonref22_Big.calls k _ _ l0_8 true _ ?side1 ?side2 A9.out).mono ?_);(case side1=>repeat ((exact (Kd.C_below HR0_8.out (by repeat ((with_reducible first | exact HB.out | apply pw_below_drewN)))))));(case side2=>exact HC0_8.out);rintro e w' ⟨rfl,⟨nd,rfl⟩⟩))
   go_ret
   exact ⟨by rfl,by repeat ((with_reducible first | exact HB.out | apply pw_below_drewN))⟩
  ·replace c10:=Bool.eq_false_iff.mpr c10
   subst c10
   rw [if_neg (show ¬ (false=true) by decide)] at H
   obtain rfl:=Option.some.inj H
   go_enter Tryz.func22,Tryz.ntmps22
   go_wp2_with (first | ((with_reducible refine gate_dst (N:=1) rfl ?_);(try (refine gate_guard (by rfl) ?_;dsimp only));refine box_event ?hg (N:=1) ?hd (cs:=#[a0_0,a0_1,a0_2,a0_3,a0_4,a0_5,.slice A0_6 l0_6.length c0_6,.slice A0_7 l0_7.length c0_7,.slice A0_8 l0_8.length c0_8]) (t:=26) ?hr ?_;(case hd=>rfl);(case hg=>rfl);(case hr=>(go_simp;done));intro gb105 hg w17 hbox hb;replace HO0_6:=sd (Kd.V_below (Kd.V_elderB HO0_6.out gb105 (Nat.le_of_eq hg.symm)) hb);have BK105:=sd (hbox);have GW105:=sd ((by rw [hg];exact (below_size HB.out):w.heap.size≤gb105));have GE105:=sd ((by rw [hg];exact (below_size HB.out):w.heap.size≤gb105));replace HB:=sd (below_step HB.out hb);clear hb hbox hg;obtain ⟨hcz18_0,hcz18_1,hcz18_2,hcz18_3,hcz18_4,hcz18_5,hcz18_6,hcz18_7,hcz18_8⟩:=cells9 BK105.out;have hfz18:=fr_of BK105.out) | ((with_reducible refine gate_dst (N:=6) rfl ?_);(try (refine gate_guard (by rfl) ?_;dsimp only));refine Kd.N_lit k63 _ 63 ?hg (N':=6) ?hd (xs:=([(⟨0,0,0,l0_6⟩:S63)]:List (S63))) (inner:=[.int .i64 0,.int .i64 0,.int .i64 0,.slice A0_6 l0_6.length c0_6]) (ok:=(fun k_=>(P0_6_ k_∨w.heap.size≤k_)∧k_≠gb105)) (okp:=(fun k_=>(P0_6_ k_∨w.heap.size≤k_)∧k_≠gb105)) ?hr ?hp (fun _ hk=>hk) ((show ∀ k_,w17.heap.size≤k_→(fun k_=>(P0_6_ k_∨w.heap.size≤k_)∧k_≠gb105) k_ from fun k_ hk=>⟨(.inr (Nat.le_trans (below_size HB.out) hk)),Kd.freshB (g:=gb105) (o:=.cells #[a0_0,a0_1,a0_2,a0_3,a0_4,a0_5,.slice A0_6 l0_6.length c0_6,.slice A0_7 l0_7.length c0_7,.slice A0_8 l0_8.length c0_8] 26 (0,0)) BK105.out k_ hk⟩) _ (Nat.le_refl _)) (Below.refl _ _) (Nat.le_refl _) (by simp) ?_;(case hd=>rfl);(case hg=>rfl);(case hr=>(go_simp;done));(case hp=>exact (Reps.c4 (show Kd.FK k63 _ _ (⟨0,0,0,l0_6⟩:S63) [.int .i64 0,.int .i64 0,.int .i64 0,.slice A0_6 l0_6.length c0_6] from (k63_mkF _ _ (⟨0,0,0,l0_6⟩:S63) (Kd.V_reads' (Kd.V_mono (ok':=(fun k_=>(P0_6_ k_∨w.heap.size≤k_)∧k_≠gb105)) (HO0_6.out) (fun k_ hk=>⟨hk.1,hk.2⟩))).2.1 (Kd.V_F (Kd.V_mono (ok':=(fun k_=>(P0_6_ k_∨w.heap.size≤k_)∧k_≠gb105)) (HO0_6.out) (fun k_ hk=>⟨hk.1,hk.2⟩))))) (Reps.none _ _)));intro v107 w19 ho20 hb hg_ hnew_;clear hg_ hnew_;((rw [← Ny106.out] at ho20));replace HO0_6:=sd (Kd.V_elder' HO0_6.out (Kd.N_base ho20) hb);have HO108:=sd (Kd.N_lower ho20 (below_size HB.out));replace BK105:=sd (blk_below BK105.out hb);replace HB:=sd (below_step HB.out hb);clear hb ho20;obtain ⟨Ao21,co21,eo21⟩:=Kd.N_slice HO108.out;subst eo21) | ((with_reducible refine gate_callee (f:=64) rfl ?_);refine goesL_ (some 7) rfl rfl Tryz.func64 (by kernel_rfl) rfl #[.slice Ao21 y106.length co21] rfl (by (try simp only [List.map_toArray,List.map_cons,List.map_nil]);rfl) ?_;(with_reducible refine (sextonref22_Big.calls k _ _ y106 false _ ?side1 ?side2 A2.out).mono ?_);(case side1=>repeat ((exact (Kd.N_reads' HO108.out).2.2)));(case side2=>exact (Kd.N_reads' HO108.out).2.1);rintro e w' ⟨rfl,⟨nd,rfl⟩⟩;refine ⟨_,rfl,?_⟩;obtain ⟨hcz22_0,hcz22_1,hcz22_2,hcz22_3,hcz22_4,hcz22_5,hcz22_6,hcz22_7,hcz22_8⟩:=cells9 BK105.out;have hfz22:=fr_of BK105.out) | (go_at_call 64;(with_reducible refine (sextonref22_Big.calls k _ _ l0_8 false _ ?side1 ?side2 A9.out).mono ?_);(case side1=>repeat ((exact (Kd.C_below HR0_8.out (by repeat ((with_reducible first | exact HB.out | apply pw_below_drewN)))))));(case side2=>exact HC0_8.out);rintro e w' ⟨rfl,⟨nd,rfl⟩⟩))
   go_ret
   exact ⟨by rfl,by repeat ((with_reducible first | exact HB.out | apply pw_below_drewN))⟩
mutual
def sextonref23_Big.l0:Nat→Int→Int→Int→Int→Int→Int→Int→Int→List ByteArray→Option (Bool)
 | 0,_,_,_,_,_,_,_,_,_=>none
 | k+1,x3,x112000,x112001,x112002,x112003,x112004,x112005,x112006,x112007=>if x3 < (x112007.length:Int) then (sextonref23_Big.j1 k x3 (decide ((x112007.length:Int)≤80)) x112000 x112001 x112002 x112003 x112004 x112005 x112006 x112007) else (sextonref23_Big.j1 k x3 false x112000 x112001 x112002 x112003 x112004 x112005 x112006 x112007)
def sextonref23_Big.j1:Nat→Int→Bool→Int→Int→Int→Int→Int→Int→Int→List ByteArray→Option (Bool)
 | 0,_,_,_,_,_,_,_,_,_,_=>none
 | k+1,x3,x14,x112000,x112001,x112002,x112003,x112004,x112005,x112006,x112007=>if x14=true then (if 0≤x3 then (if x3 < (x112007.length:Int) then (if ((rdOf ByteArray.empty x112007 x3).size:Int) > 400 then (some true) else (sextonref23_Big.l0 k (wrap64 (x3+1)) x112000 x112001 x112002 x112003 x112004 x112005 x112006 x112007)) else (none)) else (none)) else (some (decide ((x112007.length:Int) > 80)))
end
def sextonref23_Big.f (k:Nat) (a0_0:Int) (a0_1:Int) (a0_2:Int) (a0_3:Int) (a0_4:Int) (a0_5:Int) (a0_6:Int) (l0_7:List ByteArray):Option (Bool):=sextonref23_Big.l0 k 0 a0_0 a0_1 a0_2 a0_3 a0_4 a0_5 a0_6 l0_7
theorem sextonref23_Big.calls (k:Nat) (a0_0:Int) (a0_1:Int) (a0_2:Int) (a0_3:Int) (a0_4:Int) (a0_5:Int) (a0_6:Int) (A0_7:Option Addr) (c0_7:Nat) (l0_7:List ByteArray) (r:Bool) (w:World) (hr0_7:Kd.C Kd.string w A0_7 l0_7.length l0_7) (hc0_7:l0_7.length≤c0_7) (h:sextonref23_Big.f k a0_0 a0_1 a0_2 a0_3 a0_4 a0_5 a0_6 l0_7=some r) :
  Calls Tryz.prog 23 #[.agg #[a0_0,a0_1,a0_2,a0_3,a0_4,a0_5,a0_6,.slice A0_7 l0_7.length c0_7]] w fun e w'=>e=.returned r∧Below w.heap.size w w':=by
 have hu28:=Tryz.underlying28
 have HR0_7:=sd hr0_7
 have HC0_7:=sd hc0_7
 clear hr0_7 hc0_7
 have HB:=sd (Below.refl w.heap.size w)
 have H:(sextonref23_Big.l0 k 0 a0_0 a0_1 a0_2 a0_3 a0_4 a0_5 a0_6 l0_7)=some r:=h
 clear h
 have H':=sd H
 clear H
 go_enter Tryz.func23,Tryz.ntmps23
 go_wp2_with (((with_reducible refine gate_dst (N:=1) rfl ?_);(try (refine gate_guard (by rfl) ?_;dsimp only));refine box_event ?hg (N:=1) ?hd (cs:=#[a0_0,a0_1,a0_2,a0_3,a0_4,a0_5,a0_6,.slice A0_7 l0_7.length c0_7]) (t:=28) ?hr ?_;(case hd=>rfl);(case hg=>rfl);(case hr=>(go_simp;done));intro gb111 hg w2 hbox hb;have BK111:=sd (hbox);have GW111:=sd ((by rw [hg];exact (below_size HB.out):w.heap.size≤gb111));have GE111:=sd ((by rw [hg];exact (below_size HB.out):w.heap.size≤gb111));replace HB:=sd (below_step HB.out hb);clear hb hbox hg))
 go_loopg [3] k (fun kq v3 w'=>∃ (x3_1:Int),v3=.int .i64 x3_1∧Aside0 (sextonref23_Big.l0 kq x3_1 a0_0 a0_1 a0_2 a0_3 a0_4 a0_5 a0_6 l0_7=some r)∧Aside0 (kq≤k)∧Aside0 (w'.heap[gb111]?=some (.cells #[a0_0,a0_1,a0_2,a0_3,a0_4,a0_5,a0_6,(.slice A0_7 l0_7.length c0_7)] 28 (0,0)))∧Aside0 (Below w.heap.size w w'))
 case atStart=>exact ⟨(0),(by rfl),H',⟨Nat.le_refl _⟩,⟨by (with_reducible repeat (fail));exact BK111.out⟩,⟨HB.out⟩⟩
 case round =>
  clear H'
  obtain ⟨x3_1,rfl,HA,HK1,BK111,HB⟩:=hrel
  cases gk with
  | zero=>exact absurd HA.out (by simp [sextonref23_Big.l0])
  | succ k1 =>
   have H:=HA.out
   clear HA
   simp only [sextonref23_Big.l0] at H
   have HC3:=sd H
   clear H
   go_upto_region 2 with (fail)
   go_cut [14] (fun v14 wc=>∃ (kq:Nat) (x14_2:Bool),v14=.bool x14_2∧Aside0 (sextonref23_Big.j1 kq x3_1 x14_2 a0_0 a0_1 a0_2 a0_3 a0_4 a0_5 a0_6 l0_7=some r)∧Aside0 (kq≤k1)∧Aside0 (wc.heap[gb111]?=some (.cells #[a0_0,a0_1,a0_2,a0_3,a0_4,a0_5,a0_6,(.slice A0_7 l0_7.length c0_7)] 28 (0,0)))∧Aside0 (Below w.heap.size w wc))
   case first =>
    have H:=HC3.out
    clear HC3
    by_cases c4:x3_1 < (l0_7.length:Int)
    ·rw [if_pos c4] at H
     have c4b0:decide (x3_1 < (l0_7.length:Int))=true:=decide_eq_true c4
     clear c4
     (skip)
     have H':=sd H
     clear H
     obtain ⟨hcz5_0,hcz5_1,hcz5_2,hcz5_3,hcz5_4,hcz5_5,hcz5_6,hcz5_7⟩:=cells8 BK111.out
     have hfz5:=fr_of BK111.out
     go_wp2
     go_meet
     case rel=>exact ⟨_,(decide ((l0_7.length:Int)≤80)),(by rfl),H',⟨by have:=HK1.out;omega⟩,⟨by (with_reducible repeat (fail));exact BK111.out⟩,⟨HB.out⟩⟩
    ·rw [if_neg c4] at H
     have c4b0:decide (x3_1 < (l0_7.length:Int))=false:=decide_eq_false c4
     clear c4
     (skip)
     have H':=sd H
     clear H
     obtain ⟨hcz6_0,hcz6_1,hcz6_2,hcz6_3,hcz6_4,hcz6_5,hcz6_6,hcz6_7⟩:=cells8 BK111.out
     have hfz6:=fr_of BK111.out
     go_wp2
     go_meet
     case rel=>exact ⟨_,(false),(by rfl),H',⟨by have:=HK1.out;omega⟩,⟨by (with_reducible repeat (fail));exact BK111.out⟩,⟨HB.out⟩⟩
   case rest =>
    clear HC3
    obtain ⟨kq,x14_2,rfl,HA,HJ2,BK111,HB⟩:=hcut
    cases kq with
    | zero=>exact absurd HA.out (by simp [sextonref23_Big.j1])
    | succ kj2 =>
     have H:=HA.out
     clear HA
     simp only [sextonref23_Big.j1] at H
     by_cases c7:x14_2=true
     ·subst c7
      rw [if_pos rfl] at H
      by_cases c8:0≤x3_1
      ·rw [if_pos c8] at H
       have c8b0:decide (0≤x3_1)=true:=decide_eq_true c8
       clear c8
       by_cases c9:x3_1 < (l0_7.length:Int)
       ·rw [if_pos c9] at H
        have c9b0:decide (x3_1 < (l0_7.length:Int))=true:=decide_eq_true c9
        clear c9
        by_cases c10:((rdOf ByteArray.empty l0_7 x3_1).size:Int) > 400
        ·rw [if_pos c10] at H
         have c10b0:decide (400 < ((rdOf ByteArray.empty l0_7 x3_1).size:Int))=true:=decide_eq_true c10
         have c10b1:decide (400 < (rdOf ByteArray.empty l0_7 x3_1).size)=true:=decide_eq_true (by omega)
         clear c10
         obtain rfl:=Option.some.inj H
         obtain ⟨hcz11_0,hcz11_1,hcz11_2,hcz11_3,hcz11_4,hcz11_5,hcz11_6,hcz11_7⟩:=cells8 BK111.out
         have hfz11:=fr_of BK111.out
         have p112:0≤(x3_1:Int):=of_decide_eq_true (by (with_reducible assumption))
         have q112:x3_1 < (l0_7.length:Int):=of_decide_eq_true (by (with_reducible assumption))
         obtain ⟨ad112,e112,hx112_0⟩:=Kd.at_string HR0_7.out x3_1 p112 q112
         cases e112
         replace hx112_0:=(HB.out.cell (World.block_lt_of_cell? w _ hx112_0)).trans hx112_0
         replace p112:=eq_true p112
         replace q112:=eq_true q112
         go_wp2
         go_ret
         exact ⟨by rfl,HB.out⟩
        ·rw [if_neg c10] at H
         have c10b0:decide (400 < ((rdOf ByteArray.empty l0_7 x3_1).size:Int))=false:=decide_eq_false c10
         have c10b1:decide (400 < (rdOf ByteArray.empty l0_7 x3_1).size)=false:=decide_eq_false (by omega)
         clear c10
         have H':=sd H
         clear H
         obtain ⟨hcz12_0,hcz12_1,hcz12_2,hcz12_3,hcz12_4,hcz12_5,hcz12_6,hcz12_7⟩:=cells8 BK111.out
         have hfz12:=fr_of BK111.out
         have p112:0≤(x3_1:Int):=of_decide_eq_true (by (with_reducible assumption))
         have q112:x3_1 < (l0_7.length:Int):=of_decide_eq_true (by (with_reducible assumption))
         obtain ⟨ad112,e112,hx112_0⟩:=Kd.at_string HR0_7.out x3_1 p112 q112
         cases e112
         replace hx112_0:=(HB.out.cell (World.block_lt_of_cell? w _ hx112_0)).trans hx112_0
         replace p112:=eq_true p112
         replace q112:=eq_true q112
         go_wp2
         go_roundg kj2
         case measure=>have:=HK1.out;have:=HJ2.out;omega
         case rel=>exact ⟨(wrap64 (x3_1+1)),(by rfl),H',⟨by have:=HK1.out;have:=HJ2.out;omega⟩,⟨by (with_reducible repeat (fail));exact BK111.out⟩,⟨HB.out⟩⟩
       ·rw [if_neg c9] at H
        exact absurd H (by simp)
      ·rw [if_neg c8] at H
       exact absurd H (by simp)
     ·replace c7:=Bool.eq_false_iff.mpr c7
      subst c7
      rw [if_neg (show ¬ (false=true) by decide)] at H
      obtain rfl:=Option.some.inj H
      obtain ⟨hcz13_0,hcz13_1,hcz13_2,hcz13_3,hcz13_4,hcz13_5,hcz13_6,hcz13_7⟩:=cells8 BK111.out
      have hfz13:=fr_of BK111.out
      go_wp2
      go_ret
      exact ⟨by rfl,HB.out⟩
def sextonlaw24_far.f (k:Nat) (a0_0:Int) (a0_1:Int) (a0_2:Int) (a0_3:Int) (a0_4:Bool) (a0_5:Int) (l0_6:List ByteArray) (l0_7:List Int) (l0_8:List (S63)) (a1_0:Int) (a1_1:Int) (a1_2:Int) (a1_3:Int) (a1_4:Int) (a1_5:Int) (a1_6:Int) (l1_7:List ByteArray) (a2:ByteArray):Option (Bool):=(sextonref24_Big.f k a0_0 a0_1 a0_2 a0_3 a0_4 a0_5 l0_6 l0_7 l0_8).bind fun t115=>(if t115=true then (some true) else ((sextonref23_Big.f k a1_0 a1_1 a1_2 a1_3 a1_4 a1_5 a1_6 l1_7).bind fun t116=>(if t116=true then (some true) else (some (decide ((a2.size:Int) > 400))))))
theorem sextonlaw24_far.calls (k:Nat) (a0_0:Int) (a0_1:Int) (a0_2:Int) (a0_3:Int) (a0_4:Bool) (a0_5:Int) (A0_6:Option Addr) (c0_6:Nat) (l0_6:List ByteArray) (A0_7:Option Addr) (c0_7:Nat) (l0_7:List Int) (A0_8:Option Addr) (c0_8:Nat) (l0_8:List (S63)) (a1_0:Int) (a1_1:Int) (a1_2:Int) (a1_3:Int) (a1_4:Int) (a1_5:Int) (a1_6:Int) (A1_7:Option Addr) (c1_7:Nat) (l1_7:List ByteArray) (a2:ByteArray) (r:Bool) (w:World) (hr0_6:Kd.C Kd.string w A0_6 l0_6.length l0_6) (hc0_6:l0_6.length≤c0_6) (hr0_7:Kd.C (Kd.int .i64) w A0_7 l0_7.length l0_7) (hc0_7:l0_7.length≤c0_7) (hr0_8:Kd.C k63 w A0_8 l0_8.length l0_8) (hc0_8:l0_8.length≤c0_8) (hr1_7:Kd.C Kd.string w A1_7 l1_7.length l1_7) (hc1_7:l1_7.length≤c1_7) (h:sextonlaw24_far.f k a0_0 a0_1 a0_2 a0_3 a0_4 a0_5 l0_6 l0_7 l0_8 a1_0 a1_1 a1_2 a1_3 a1_4 a1_5 a1_6 l1_7 a2=some r) :
  Calls Tryz.prog 4 #[.agg #[a0_0,a0_1,a0_2,a0_3,a0_4,a0_5,.slice A0_6 l0_6.length c0_6,.slice A0_7 l0_7.length c0_7,.slice A0_8 l0_8.length c0_8],.agg #[a1_0,a1_1,a1_2,a1_3,a1_4,a1_5,a1_6,.slice A1_7 l1_7.length c1_7],.string a2] w fun e w'=>e=.returned r∧Below w.heap.size w w':=by
 have hu26:=Tryz.underlying26
 have hu28:=Tryz.underlying28
 have HR0_6:=sd hr0_6
 have HC0_6:=sd hc0_6
 clear hr0_6 hc0_6
 have HR0_7:=sd hr0_7
 have HC0_7:=sd hc0_7
 clear hr0_7 hc0_7
 have HR0_8:=sd hr0_8
 have HC0_8:=sd hc0_8
 clear hr0_8 hc0_8
 have HR1_7:=sd hr1_7
 have HC1_7:=sd hc1_7
 clear hr1_7 hc1_7
 have HB:=sd (Below.refl w.heap.size w)
 have H:((sextonref24_Big.f k a0_0 a0_1 a0_2 a0_3 a0_4 a0_5 l0_6 l0_7 l0_8).bind fun t115=>(if t115=true then (some true) else ((sextonref23_Big.f k a1_0 a1_1 a1_2 a1_3 a1_4 a1_5 a1_6 l1_7).bind fun t116=>(if t116=true then (some true) else (some (decide ((a2.size:Int) > 400)))))))=some r:=h
 clear h
 replace H:=Option.bind_eq_some_iff.mp H
 obtain ⟨t115,A40,H⟩:=H
 replace H:(if t115=true then (some true) else ((sextonref23_Big.f k a1_0 a1_1 a1_2 a1_3 a1_4 a1_5 a1_6 l1_7).bind fun t116=>(if t116=true then (some true) else (some (decide ((a2.size:Int) > 400))))))=some r:=H
 have A4:=sd A40
 clear A40
 by_cases c5:t115=true
 ·subst c5
  rw [if_pos rfl] at H
  obtain rfl:=Option.some.inj H
  go_enter Tryz.func4,Tryz.ntmps4
  go_wp2_with (first | ((with_reducible refine gate_dst (N:=3) rfl ?_);(try (refine gate_guard (by rfl) ?_;dsimp only));refine box_event ?hg (N:=3) ?hd (cs:=#[a0_0,a0_1,a0_2,a0_3,a0_4,a0_5,.slice A0_6 l0_6.length c0_6,.slice A0_7 l0_7.length c0_7,.slice A0_8 l0_8.length c0_8]) (t:=26) ?hr ?_;(case hd=>rfl);(case hg=>rfl);(case hr=>(go_simp;done));intro gb113 hg w6 hbox hb;have BK113:=sd (hbox);have GW113:=sd ((by rw [hg];exact (below_size HB.out):w.heap.size≤gb113));have GE113:=sd ((by rw [hg];exact (below_size HB.out):w.heap.size≤gb113));replace HB:=sd (below_step HB.out hb);clear hb hbox hg) | ((with_reducible refine gate_dst (N:=4) rfl ?_);(try (refine gate_guard (by rfl) ?_;dsimp only));refine box_event ?hg (N:=4) ?hd (cs:=#[a1_0,a1_1,a1_2,a1_3,a1_4,a1_5,a1_6,.slice A1_7 l1_7.length c1_7]) (t:=28) ?hr ?_;(case hd=>rfl);(case hg=>rfl);(case hr=>(go_simp;done));intro gb114 hg w7 hbox hb;have BK114:=sd (hbox);have GW114:=sd ((by rw [hg];exact (below_size HB.out):w.heap.size≤gb114));have GE114:=sd ((by rw [hg];exact (below_size HB.out):w.heap.size≤gb114));replace HB:=sd (below_step HB.out hb);have NB113_114:=sd ((by rw [hg];exact Nat.ne_of_lt (blk_lt BK113.out):gb113≠gb114));have NB114_113:=sd ((by rw [hg];exact Nat.ne_of_gt (blk_lt BK113.out):gb114≠gb113));replace BK113:=sd (blk_below BK113.out hb);clear hb hbox hg;have hnb8:=NB113_114.out;have hnc8:=NB114_113.out;obtain ⟨hcz9_0,hcz9_1,hcz9_2,hcz9_3,hcz9_4,hcz9_5,hcz9_6,hcz9_7,hcz9_8⟩:=cells9 BK113.out;have hfz9:=fr_of BK113.out) | ((with_reducible refine gate_callee (f:=22) rfl ?_);refine goesL_ (some 8) rfl rfl Tryz.func22 (by kernel_rfl) rfl #[.agg #[a0_0,a0_1,a0_2,a0_3,a0_4,a0_5,.slice A0_6 l0_6.length c0_6,.slice A0_7 l0_7.length c0_7,.slice A0_8 l0_8.length c0_8]] rfl (by (try simp only [List.map_toArray,List.map_cons,List.map_nil]);rfl) ?_;(with_reducible refine (sextonref24_Big.calls k a0_0 a0_1 a0_2 a0_3 a0_4 a0_5 (fun k_=>k_ < w.heap.size) _ _ l0_6 _ _ l0_7 _ _ l0_8 true _ ?side1 ?side2 ?side3 ?side4 ?side5 A4.out).mono ?_);(case side1=>exact Kd.V_mk HC0_6.out (Kd.F_below (Kd.C_F Kd.heap_string HR0_6.out) HB.out));(case side2=>exact (Kd.C_below HR0_7.out HB.out));(case side3=>exact HC0_7.out);(case side4=>exact (Kd.C_below HR0_8.out HB.out));(case side5=>exact HC0_8.out);rintro e w10 ⟨rfl,hb⟩;refine ⟨_,rfl,?_⟩;replace BK113:=sd (blk_below BK113.out hb);replace BK114:=sd (blk_below BK114.out hb);replace HB:=sd (below_step HB.out hb);(try clear hb)))
  go_ret
  exact ⟨by rfl,HB.out⟩
 ·replace c5:=Bool.eq_false_iff.mpr c5
  subst c5
  rw [if_neg (show ¬ (false=true) by decide)] at H
  replace H:=Option.bind_eq_some_iff.mp H
  obtain ⟨t116,A110,H⟩:=H
  replace H:(if t116=true then (some true) else (some (decide ((a2.size:Int) > 400))))=some r:=H
  have A11:=sd A110
  clear A110
  by_cases c12:t116=true
  ·subst c12
   rw [if_pos rfl] at H
   obtain rfl:=Option.some.inj H
   go_enter Tryz.func4,Tryz.ntmps4
   go_wp2_with (first | ((with_reducible refine gate_dst (N:=3) rfl ?_);(try (refine gate_guard (by rfl) ?_;dsimp only));refine box_event ?hg (N:=3) ?hd (cs:=#[a0_0,a0_1,a0_2,a0_3,a0_4,a0_5,.slice A0_6 l0_6.length c0_6,.slice A0_7 l0_7.length c0_7,.slice A0_8 l0_8.length c0_8]) (t:=26) ?hr ?_;(case hd=>rfl);(case hg=>rfl);(case hr=>(go_simp;done));intro gb113 hg w13 hbox hb;have BK113:=sd (hbox);have GW113:=sd ((by rw [hg];exact (below_size HB.out):w.heap.size≤gb113));have GE113:=sd ((by rw [hg];exact (below_size HB.out):w.heap.size≤gb113));replace HB:=sd (below_step HB.out hb);clear hb hbox hg) | ((with_reducible refine gate_dst (N:=4) rfl ?_);(try (refine gate_guard (by rfl) ?_;dsimp only));refine box_event ?hg (N:=4) ?hd (cs:=#[a1_0,a1_1,a1_2,a1_3,a1_4,a1_5,a1_6,.slice A1_7 l1_7.length c1_7]) (t:=28) ?hr ?_;(case hd=>rfl);(case hg=>rfl);(case hr=>(go_simp;done));intro gb114 hg w14 hbox hb;have BK114:=sd (hbox);have GW114:=sd ((by rw [hg];exact (below_size HB.out):w.heap.size≤gb114));have GE114:=sd ((by rw [hg];exact (below_size HB.out):w.heap.size≤gb114));replace HB:=sd (below_step HB.out hb);have NB113_114:=sd ((by rw [hg];exact Nat.ne_of_lt (blk_lt BK113.out):gb113≠gb114));have NB114_113:=sd ((by rw [hg];exact Nat.ne_of_gt (blk_lt BK113.out):gb114≠gb113));replace BK113:=sd (blk_below BK113.out hb);clear hb hbox hg;have hnb15:=NB113_114.out;have hnc15:=NB114_113.out;obtain ⟨hcz16_0,hcz16_1,hcz16_2,hcz16_3,hcz16_4,hcz16_5,hcz16_6,hcz16_7,hcz16_8⟩:=cells9 BK113.out;have hfz16:=fr_of BK113.out) | ((with_reducible refine gate_callee (f:=22) rfl ?_);refine goesL_ (some 8) rfl rfl Tryz.func22 (by kernel_rfl) rfl #[.agg #[a0_0,a0_1,a0_2,a0_3,a0_4,a0_5,.slice A0_6 l0_6.length c0_6,.slice A0_7 l0_7.length c0_7,.slice A0_8 l0_8.length c0_8]] rfl (by (try simp only [List.map_toArray,List.map_cons,List.map_nil]);rfl) ?_;(with_reducible refine (sextonref24_Big.calls k a0_0 a0_1 a0_2 a0_3 a0_4 a0_5 (fun k_=>k_ < w.heap.size) _ _ l0_6 _ _ l0_7 _ _ l0_8 false _ ?side1 ?side2 ?side3 ?side4 ?side5 A4.out).mono ?_);(case side1=>exact Kd.V_mk HC0_6.out (Kd.F_below (Kd.C_F Kd.heap_string HR0_6.out) HB.out));(case side2=>exact (Kd.C_below HR0_7.out HB.out));(case side3=>exact HC0_7.out);(case side4=>exact (Kd.C_below HR0_8.out HB.out));(case side5=>exact HC0_8.out);rintro e w17 ⟨rfl,hb⟩;refine ⟨_,rfl,?_⟩;replace BK113:=sd (blk_below BK113.out hb);replace BK114:=sd (blk_below BK114.out hb);replace HB:=sd (below_step HB.out hb);(try clear hb);obtain ⟨hcz18_0,hcz18_1,hcz18_2,hcz18_3,hcz18_4,hcz18_5,hcz18_6,hcz18_7⟩:=cells8 BK114.out;have hfz18:=fr_of BK114.out) | (go_at_call 23;(with_reducible refine (sextonref23_Big.calls k a1_0 a1_1 a1_2 a1_3 a1_4 a1_5 a1_6 _ _ l1_7 true _ ?side1 ?side2 A11.out).mono ?_);(case side1=>exact (Kd.C_below HR1_7.out HB.out));(case side2=>exact HC1_7.out);rintro e w19 ⟨rfl,hb⟩;replace BK113:=sd (blk_below BK113.out hb);replace BK114:=sd (blk_below BK114.out hb);replace HB:=sd (below_step HB.out hb);(try clear hb)))
   go_ret
   exact ⟨by rfl,HB.out⟩
  ·replace c12:=Bool.eq_false_iff.mpr c12
   subst c12
   rw [if_neg (show ¬ (false=true) by decide)] at H
   obtain rfl:=Option.some.inj H
   go_enter Tryz.func4,Tryz.ntmps4
   go_wp2_with (first | ((with_reducible refine gate_dst (N:=3) rfl ?_);(try (refine gate_guard (by rfl) ?_;dsimp only));refine box_event ?hg (N:=3) ?hd (cs:=#[a0_0,a0_1,a0_2,a0_3,a0_4,a0_5,.slice A0_6 l0_6.length c0_6,.slice A0_7 l0_7.length c0_7,.slice A0_8 l0_8.length c0_8]) (t:=26) ?hr ?_;(case hd=>rfl);(case hg=>rfl);(case hr=>(go_simp;done));intro gb113 hg w20 hbox hb;have BK113:=sd (hbox);have GW113:=sd ((by rw [hg];exact (below_size HB.out):w.heap.size≤gb113));have GE113:=sd ((by rw [hg];exact (below_size HB.out):w.heap.size≤gb113));replace HB:=sd (below_step HB.out hb);clear hb hbox hg) | ((with_reducible refine gate_dst (N:=4) rfl ?_);(try (refine gate_guard (by rfl) ?_;dsimp only));refine box_event ?hg (N:=4) ?hd (cs:=#[a1_0,a1_1,a1_2,a1_3,a1_4,a1_5,a1_6,.slice A1_7 l1_7.length c1_7]) (t:=28) ?hr ?_;(case hd=>rfl);(case hg=>rfl);(case hr=>(go_simp;done));intro gb114 hg w21 hbox hb;have BK114:=sd (hbox);have GW114:=sd ((by rw [hg];exact (below_size HB.out):w.heap.size≤gb114));have GE114:=sd ((by rw [hg];exact (below_size HB.out):w.heap.size≤gb114));replace HB:=sd (below_step HB.out hb);have NB113_114:=sd ((by rw [hg];exact Nat.ne_of_lt (blk_lt BK113.out):gb113≠gb114));have NB114_113:=sd ((by rw [hg];exact Nat.ne_of_gt (blk_lt BK113.out):gb114≠gb113));replace BK113:=sd (blk_below BK113.out hb);clear hb hbox hg;have hnb22:=NB113_114.out;have hnc22:=NB114_113.out;obtain ⟨hcz23_0,hcz23_1,hcz23_2,hcz23_3,hcz23_4,hcz23_5,hcz23_6,hcz23_7,hcz23_8⟩:=cells9 BK113.out;have hfz23:=fr_of BK113.out) | ((with_reducible refine gate_callee (f:=22) rfl ?_);refine goesL_ (some 8) rfl rfl Tryz.func22 (by kernel_rfl) rfl #[.agg #[a0_0,a0_1,a0_2,a0_3,a0_4,a0_5,.slice A0_6 l0_6.length c0_6,.slice A0_7 l0_7.length c0_7,.slice A0_8 l0_8.length c0_8]] rfl (by (try simp only [List.map_toArray,List.map_cons,List.map_nil]);rfl) ?_;(with_reducible refine (sextonref24_Big.calls k a0_0 a0_1 a0_2 a0_3 a0_4 a0_5 (fun k_=>k_ < w.heap.size) _ _ l0_6 _ _ l0_7 _ _ l0_8 false _ ?side1 ?side2 ?side3 ?side4 ?side5 A4.out).mono ?_);(case side1=>exact Kd.V_mk HC0_6.out (Kd.F_below (Kd.C_F Kd.heap_string HR0_6.out) HB.out));(case side2=>exact (Kd.C_below HR0_7.out HB.out));(case side3=>exact HC0_7.out);(case side4=>exact (Kd.C_below HR0_8.out HB.out));(case side5=>exact HC0_8.out);rintro e w24 ⟨rfl,hb⟩;refine ⟨_,rfl,?_⟩;replace BK113:=sd (blk_below BK113.out hb);replace BK114:=sd (blk_below BK114.out hb);replace HB:=sd (below_step HB.out hb);(try clear hb);obtain ⟨hcz25_0,hcz25_1,hcz25_2,hcz25_3,hcz25_4,hcz25_5,hcz25_6,hcz25_7⟩:=cells8 BK114.out;have hfz25:=fr_of BK114.out) | (go_at_call 23;(with_reducible refine (sextonref23_Big.calls k a1_0 a1_1 a1_2 a1_3 a1_4 a1_5 a1_6 _ _ l1_7 false _ ?side1 ?side2 A11.out).mono ?_);(case side1=>exact (Kd.C_below HR1_7.out HB.out));(case side2=>exact HC1_7.out);rintro e w26 ⟨rfl,hb⟩;replace BK113:=sd (blk_below BK113.out hb);replace BK114:=sd (blk_below BK114.out hb);replace HB:=sd (below_step HB.out hb);(try clear hb)))
   go_ret
   exact ⟨by rfl,HB.out⟩
def replica_size.f (a0:Int):Option (Bool):=if a0=1 then (some true) else (if a0=3 then (some true) else (if a0=5 then (some true) else (some (a0==7))))
theorem replica_size.calls (a0:Int) (r:Bool) (w:World) (h:replica_size.f a0=some r) :
  Calls Tryz.prog 58 #[a0] w fun e w'=>e=.returned r∧Drawn0 w w':=by
 have H:(if a0=1 then (some true) else (if a0=3 then (some true) else (if a0=5 then (some true) else (some (a0==7)))))=some r:=h
 clear h
 by_cases c2:a0=1
 ·rw [if_pos c2] at H
  have c2b0:(a0==1)=true:=beq_iff_eq.mpr c2
  have c2b1:(a0 != 1)=false:=bne_eq_false_iff_eq.mpr c2
  clear c2
  obtain rfl:=Option.some.inj H
  go_enter Tryz.func58,Tryz.ntmps58
  go_wp2
  go_ret
  exact ⟨by rfl,by repeat ((exact Drawn0.refl _))⟩
 ·rw [if_neg c2] at H
  have c2b0:(a0==1)=false:=beq_eq_false_iff_ne.mpr c2
  have c2b1:(a0 != 1)=true:=bne_iff_ne.mpr c2
  by_cases c3:a0=3
  ·rw [if_pos c3] at H
   have c3b0:(a0==3)=true:=beq_iff_eq.mpr c3
   have c3b1:(a0 != 3)=false:=bne_eq_false_iff_eq.mpr c3
   clear c3
   obtain rfl:=Option.some.inj H
   go_enter Tryz.func58,Tryz.ntmps58
   go_wp2
   go_ret
   exact ⟨by rfl,by repeat ((exact Drawn0.refl _))⟩
  ·rw [if_neg c3] at H
   have c3b0:(a0==3)=false:=beq_eq_false_iff_ne.mpr c3
   have c3b1:(a0 != 3)=true:=bne_iff_ne.mpr c3
   by_cases c4:a0=5
   ·rw [if_pos c4] at H
    have c4b0:(a0==5)=true:=beq_iff_eq.mpr c4
    have c4b1:(a0 != 5)=false:=bne_eq_false_iff_eq.mpr c4
    clear c4
    obtain rfl:=Option.some.inj H
    go_enter Tryz.func58,Tryz.ntmps58
    go_wp2
    go_ret
    exact ⟨by rfl,by repeat ((exact Drawn0.refl _))⟩
   ·rw [if_neg c4] at H
    have c4b0:(a0==5)=false:=beq_eq_false_iff_ne.mpr c4
    have c4b1:(a0 != 5)=true:=bne_iff_ne.mpr c4
    obtain rfl:=Option.some.inj H
    go_enter Tryz.func58,Tryz.ntmps58
    go_wp2
    go_ret
    exact ⟨by rfl,by repeat ((exact Drawn0.refl _))⟩
def replica_within.f (a0:Int) (a1:Int):Option (Bool):=if a0≥0 then (some (decide (a0≤a1))) else (some false)
theorem replica_within.calls (a0:Int) (a1:Int) (r:Bool) (w:World) (h:replica_within.f a0 a1=some r) :
  Calls Tryz.prog 60 #[a0,a1] w fun e w'=>e=.returned r∧Drawn0 w w':=by
 have H:(if a0≥0 then (some (decide (a0≤a1))) else (some false))=some r:=h
 clear h
 by_cases c3:a0≥0
 ·rw [if_pos c3] at H
  have c3b0:decide (0≤a0)=true:=decide_eq_true c3
  clear c3
  obtain rfl:=Option.some.inj H
  go_enter Tryz.func60,Tryz.ntmps60
  go_wp2
  go_ret
  exact ⟨by rfl,by repeat ((exact Drawn0.refl _))⟩
 ·rw [if_neg c3] at H
  have c3b0:decide (0≤a0)=false:=decide_eq_false c3
  clear c3
  obtain rfl:=Option.some.inj H
  go_enter Tryz.func60,Tryz.ntmps60
  go_wp2
  go_ret
  exact ⟨by rfl,by repeat ((exact Drawn0.refl _))⟩
end
end Go.Proofs.YtfpfpckocemmdaaGreat.P
