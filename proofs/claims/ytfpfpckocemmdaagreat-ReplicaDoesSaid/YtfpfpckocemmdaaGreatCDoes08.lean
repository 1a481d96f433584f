/- Part 8 of the walk. -/
import Derived.Test.YtfpfpckocemmdaaGreatCDoes07
set_option linter.unusedVariables false
set_option linter.unusedSimpArgs false
set_option maxHeartbeats 8000000
set_option maxRecDepth 100000
namespace Go.Proofs.YtfpfpckocemmdaaGreat.P
open Go.RowKit Go.Proofs.YtfpfpckocemmdaaGreatW.PrintWords Go.Proofs.YtfpfpckocemmdaaGreatW.PrintLast Go.Proofs.YtfpfpckocemmdaaGreatW.PrintMore
section
attribute [local go_sem] max2_int min2_int max_two min_two max_three min_three max_four min_four   -- for this text's walks alone
def msg_within.f (a0:Int) (a1:Int):Option (Bool):=if a0≥0 then (some (decide (a0≤a1))) else (some false)
theorem msg_within.calls (a0:Int) (a1:Int) (r:Bool) (w:World) (h:msg_within.f a0 a1=some r) :
  Calls Tryz.prog 77 #[a0,a1] w fun e w'=>e=.returned r∧Drawn0 w w':=by
 have H:(if a0≥0 then (some (decide (a0≤a1))) else (some false))=some r:=h
 clear h
 by_cases c3:a0≥0
 ·rw [if_pos c3] at H
  have c3b0:decide (0≤a0)=true:=decide_eq_true c3
  clear c3
  obtain rfl:=Option.some.inj H
  go_enter Tryz.func77,Tryz.ntmps77
  go_wp2
  go_ret
  exact ⟨by rfl,by repeat ((exact Drawn0.refl _))⟩
 ·rw [if_neg c3] at H
  have c3b0:decide (0≤a0)=false:=decide_eq_false c3
  clear c3
  obtain rfl:=Option.some.inj H
  go_enter Tryz.func77,Tryz.ntmps77
  go_wp2
  go_ret
  exact ⟨by rfl,by repeat ((exact Drawn0.refl _))⟩
def msg_logged_1.f (a0:ByteArray):Option (Bool):=some (decide ((a0.size:Int) > 300))
theorem msg_logged_1.calls (a0:ByteArray) (r:Bool) (w:World) (h:msg_logged_1.f a0=some r) :
  Calls Tryz.prog 92 #[.string a0] w fun e w'=>e=.returned r∧Drawn0 w w':=by
 have H:(some (decide ((a0.size:Int) > 300)))=some r:=h
 clear h
 obtain rfl:=Option.some.inj H
 go_enter Tryz.func92,Tryz.ntmps92
 go_wp2
 go_ret
 exact ⟨by rfl,by repeat ((exact Drawn0.refl _))⟩
def slices_IndexFunc_string_string_msg_logged_1.l0:Nat→List ByteArray→Int→Int→Option (Int)
 | 0,_,_,_=>none
 | k+1,x0,x7,x8=>if x8 < x7 then (if 0≤x8 then (if x8 < (x0.length:Int) then ((msg_logged_1.f (rdOf ByteArray.empty x0 x8)).bind fun t382=>(if t382=true then (some x8) else (slices_IndexFunc_string_string_msg_logged_1.l0 k x0 x7 (wrap64 (x8+1))))) else (none)) else (none)) else (some (-1))
def slices_IndexFunc_string_string_msg_logged_1.f (k:Nat) (l0:List ByteArray)  : Option (Int):=slices_IndexFunc_string_string_msg_logged_1.l0 k l0 (l0.length:Int) 0
theorem slices_IndexFunc_string_string_msg_logged_1.calls (k:Nat) (A0:Option Addr) (c0:Nat) (l0:List ByteArray)  (r:Int) (w:World) (hr0:Kd.C Kd.string w A0 l0.length l0) (hc0:l0.length≤c0) (h:slices_IndexFunc_string_string_msg_logged_1.f k l0=some r) :
  Calls Tryz.prog 96 #[.slice A0 l0.length c0,.func (.func 92) #[] #[]] w fun e w'=>e=.returned r∧Below w.heap.size w w':=by
 have HR0:=sd hr0
 have HC0:=sd hc0
 clear hr0 hc0
 have HB:=sd (Below.refl w.heap.size w)
 have H:(slices_IndexFunc_string_string_msg_logged_1.l0 k l0 (l0.length:Int) 0)=some r:=h
 clear h
 have H':=sd H
 clear H
 go_enter Tryz.func96,Tryz.ntmps96
 go_wp2
 go_loopg [8] k (fun kq v8 w'=>∃ (x8_1:Int),v8=.int .i64 x8_1∧Aside0 (slices_IndexFunc_string_string_msg_logged_1.l0 kq l0 (l0.length:Int) x8_1=some r)∧Aside0 (kq≤k)∧Aside0 (Below w.heap.size w w'))
 case atStart=>exact ⟨(0),(by rfl),H',⟨Nat.le_refl _⟩,⟨HB.out⟩⟩
 case round =>
  clear H'
  obtain ⟨x8_1,rfl,HA,HK1,HB⟩:=hrel
  cases gk with
  | zero=>exact absurd HA.out (by simp [slices_IndexFunc_string_string_msg_logged_1.l0])
  | succ k1 =>
   have H:=HA.out
   clear HA
   simp only [slices_IndexFunc_string_string_msg_logged_1.l0] at H
   by_cases c3:x8_1 < (l0.length:Int)
   ·rw [if_pos c3] at H
    have c3b0:decide (x8_1 < (l0.length:Int))=true:=decide_eq_true c3
    clear c3
    by_cases c4:0≤x8_1
    ·rw [if_pos c4] at H
     have c4b0:decide (0≤x8_1)=true:=decide_eq_true c4
     clear c4
     by_cases c5:x8_1 < (l0.length:Int)
     ·rw [if_pos c5] at H
      have c5b0:decide (x8_1 < (l0.length:Int))=true:=decide_eq_true c5
      clear c5
      replace H:=Option.bind_eq_some_iff.mp H
      obtain ⟨t382,A60,H⟩:=H
      replace H:(if t382=true then (some x8_1) else (slices_IndexFunc_string_string_msg_logged_1.l0 k1 l0 (l0.length:Int) (wrap64 (x8_1+1))))=some r:=H
      have A6:=sd A60
      clear A60
      by_cases c7:t382=true
      ·subst c7
       rw [if_pos rfl] at H
       obtain rfl:=Option.some.inj H
       have p381:0≤(x8_1:Int):=of_decide_eq_true (by (with_reducible assumption))
       have q381:x8_1 < (l0.length:Int):=of_decide_eq_true (by (with_reducible assumption))
       obtain ⟨ad381,e381,hx381_0⟩:=Kd.at_string HR0.out x8_1 p381 q381
       cases e381
       replace hx381_0:=(HB.out.cell (World.block_lt_of_cell? w _ hx381_0)).trans hx381_0
       replace p381:=eq_true p381
       replace q381:=eq_true q381
       go_wp2_with ((go_at_call 92;(with_reducible refine (msg_logged_1.calls (rdOf ByteArray.empty l0 x8_1) true _ A6.out).mono ?_);rintro e w' ⟨rfl,⟨nd,rfl⟩⟩))
       go_ret
       exact ⟨by rfl,by repeat ((with_reducible first | exact HB.out | apply pw_below_drewN))⟩
      ·replace c7:=Bool.eq_false_iff.mpr c7
       subst c7
       rw [if_neg (show ¬ (false=true) by decide)] at H
       have H':=sd H
       clear H
       have p381:0≤(x8_1:Int):=of_decide_eq_true (by (with_reducible assumption))
       have q381:x8_1 < (l0.length:Int):=of_decide_eq_true (by (with_reducible assumption))
       obtain ⟨ad381,e381,hx381_0⟩:=Kd.at_string HR0.out x8_1 p381 q381
       cases e381
       replace hx381_0:=(HB.out.cell (World.block_lt_of_cell? w _ hx381_0)).trans hx381_0
       replace p381:=eq_true p381
       replace q381:=eq_true q381
       go_wp2_with ((go_at_call 92;(with_reducible refine (msg_logged_1.calls (rdOf ByteArray.empty l0 x8_1) false _ A6.out).mono ?_);rintro e w' ⟨rfl,⟨nd,rfl⟩⟩))
       go_roundg k1
       case measure=>have:=HK1.out;omega
       case rel=>exact ⟨(wrap64 (x8_1+1)),(by rfl),H',⟨by have:=HK1.out;omega⟩,⟨by repeat ((with_reducible first | exact HB.out | apply pw_below_drewN))⟩⟩
     ·rw [if_neg c5] at H
      exact absurd H (by simp)
    ·rw [if_neg c4] at H
     exact absurd H (by simp)
   ·rw [if_neg c3] at H
    have c3b0:decide (x8_1 < (l0.length:Int))=false:=decide_eq_false c3
    clear c3
    obtain rfl:=Option.some.inj H
    go_wp2
    go_ret
    exact ⟨by rfl,HB.out⟩
def slices_ContainsFunc_string_string_msg_logged_1.f (k:Nat) (l0:List ByteArray)  : Option (Bool):=(slices_IndexFunc_string_string_msg_logged_1.f k l0).bind fun t383=>(some (decide (t383≥0)))
theorem slices_ContainsFunc_string_string_msg_logged_1.calls (k:Nat) (A0:Option Addr) (c0:Nat) (l0:List ByteArray)  (r:Bool) (w:World) (hr0:Kd.C Kd.string w A0 l0.length l0) (hc0:l0.length≤c0) (h:slices_ContainsFunc_string_string_msg_logged_1.f k l0=some r) :
  Calls Tryz.prog 93 #[.slice A0 l0.length c0,.func (.func 92) #[] #[]] w fun e w'=>e=.returned r∧Below w.heap.size w w':=by
 have HR0:=sd hr0
 have HC0:=sd hc0
 clear hr0 hc0
 have HB:=sd (Below.refl w.heap.size w)
 have H:((slices_IndexFunc_string_string_msg_logged_1.f k l0).bind fun t383=>(some (decide (t383≥0))))=some r:=h
 clear h
 replace H:=Option.bind_eq_some_iff.mp H
 obtain ⟨t383,A30,H⟩:=H
 replace H:(some (decide (t383≥0)))=some r:=H
 have A3:=sd A30
 clear A30
 obtain rfl:=Option.some.inj H
 go_enter Tryz.func93,Tryz.ntmps93
 go_wp2_with (((with_reducible refine gate_callee (f:=96) rfl ?_);refine goesL_ (some 7) rfl rfl Tryz.func96 (by kernel_rfl) rfl #[.slice A0 l0.length c0,.func (.func 92) #[] #[]] rfl (by (try simp only [List.map_toArray,List.map_cons,List.map_nil]);rfl) ?_;(with_reducible refine (slices_IndexFunc_string_string_msg_logged_1.calls k _ _ l0  t383 _ ?side1 ?side2 A3.out).mono ?_);(case side1=>exact HR0.out);(case side2=>exact HC0.out);rintro e w4 ⟨rfl,hb⟩;refine ⟨_,rfl,?_⟩;replace HB:=sd (below_step HB.out hb);(try clear hb)))
 go_ret
 exact ⟨by rfl,HB.out⟩
def msg_logged.f (k:Nat) (l0:List ByteArray) (a1:Int):Option (Bool):=if (l0.length:Int)≤60 then ((msg_within.f a1 (l0.length:Int)).bind fun t384=>(if t384=true then ((slices_ContainsFunc_string_string_msg_logged_1.f k l0).bind fun t385=>(some (!t385))) else (some false))) else (some false)
theorem msg_logged.calls (k:Nat) (A0:Option Addr) (c0:Nat) (l0:List ByteArray) (a1:Int) (r:Bool) (w:World) (hr0:Kd.C Kd.string w A0 l0.length l0) (hc0:l0.length≤c0) (h:msg_logged.f k l0 a1=some r) :
  Calls Tryz.prog 78 #[.slice A0 l0.length c0,a1] w fun e w'=>e=.returned r∧Below w.heap.size w w':=by
 have HR0:=sd hr0
 have HC0:=sd hc0
 clear hr0 hc0
 have HB:=sd (Below.refl w.heap.size w)
 have H:(if (l0.length:Int)≤60 then ((msg_within.f a1 (l0.length:Int)).bind fun t384=>(if t384=true then ((slices_ContainsFunc_string_string_msg_logged_1.f k l0).bind fun t385=>(some (!t385))) else (some false))) else (some false))=some r:=h
 clear h
 by_cases c3:(l0.length:Int)≤60
 ·rw [if_pos c3] at H
  have c3b0:decide ((l0.length:Int)≤60)=true:=decide_eq_true c3
  have c3b1:decide (l0.length≤60)=true:=decide_eq_true (by omega)
  clear c3
  replace H:=Option.bind_eq_some_iff.mp H
  obtain ⟨t384,A40,H⟩:=H
  replace H:(if t384=true then ((slices_ContainsFunc_string_string_msg_logged_1.f k l0).bind fun t385=>(some (!t385))) else (some false))=some r:=H
  have A4:=sd A40
  clear A40
  by_cases c5:t384=true
  ·subst c5
   rw [if_pos rfl] at H
   replace H:=Option.bind_eq_some_iff.mp H
   obtain ⟨t385,A60,H⟩:=H
   replace H:(some (!t385))=some r:=H
   have A6:=sd A60
   clear A60
   obtain rfl:=Option.some.inj H
   go_enter Tryz.func78,Tryz.ntmps78
   go_wp2_with (first | (go_at_call 77;(with_reducible refine (msg_within.calls a1 (l0.length:Int) true _ A4.out).mono ?_);rintro e w' ⟨rfl,⟨nd,rfl⟩⟩) | (go_at_call 93;(with_reducible refine (slices_ContainsFunc_string_string_msg_logged_1.calls k _ _ l0  t385 _ ?side1 ?side2 A6.out).mono ?_);(case side1=>exact HR0.out);(case side2=>exact HC0.out);rintro e w7 ⟨rfl,hb⟩;replace HB:=sd (below_step (by repeat ((with_reducible first | exact HB.out | apply pw_below_drewN))) hb);(try clear hb)))
   go_ret
   exact ⟨by rfl,HB.out⟩
  ·replace c5:=Bool.eq_false_iff.mpr c5
   subst c5
   rw [if_neg (show ¬ (false=true) by decide)] at H
   obtain rfl:=Option.some.inj H
   go_enter Tryz.func78,Tryz.ntmps78
   go_wp2_with ((go_at_call 77;(with_reducible refine (msg_within.calls a1 (l0.length:Int) false _ A4.out).mono ?_);rintro e w' ⟨rfl,⟨nd,rfl⟩⟩))
   go_ret
   exact ⟨by rfl,by repeat ((with_reducible first | exact HB.out | apply pw_below_drewN))⟩
 ·rw [if_neg c3] at H
  have c3b0:decide ((l0.length:Int)≤60)=false:=decide_eq_false c3
  have c3b1:decide (l0.length≤60)=false:=decide_eq_false (by omega)
  clear c3
  obtain rfl:=Option.some.inj H
  go_enter Tryz.func78,Tryz.ntmps78
  go_wp2
  go_ret
  exact ⟨by rfl,HB.out⟩
def msg_Is.j0:Nat→Bool→Int→Int→Int→Int→Int→Int→Int→List ByteArray→Option (Bool)
 | 0,_,_,_,_,_,_,_,_,_=>none
 | k+1,x18,x387000,x387001,x387002,x387003,x387004,x387005,x387006,x387007=>if x18=true then (some false) else (if x387000=1 then ((msg_logged.f k x387007 x387005).bind fun t390=>(if t390=true then (if x387004=0 then (some (x387006==0)) else (some false)) else (some false))) else (if x387000=2 then (if (x387007.length:Int)=0 then (if x387005=0 then (if x387004=0 then ((msg_within.f x387006 60).bind fun t391=>(some t391)) else (some false)) else (some false)) else (some false)) else (if x387000=3 then ((msg_logged.f k x387007 x387005).bind fun t392=>(if t392=true then ((msg_within.f x387004 x387003).bind fun t393=>(if t393=true then (some (x387006==0)) else (some false))) else (some false))) else (some false))))
def msg_Is.f (k:Nat) (a0_0:Int) (a0_1:Int) (a0_2:Int) (a0_3:Int) (a0_4:Int) (a0_5:Int) (a0_6:Int) (l0_7:List ByteArray):Option (Bool):=(msg_within.f a0_1 6).bind fun t387=>(if t387=true then ((msg_within.f a0_2 6).bind fun t388=>(if t388=true then ((msg_within.f a0_3 1000000).bind fun t389=>(msg_Is.j0 k (!t389) a0_0 a0_1 a0_2 a0_3 a0_4 a0_5 a0_6 l0_7)) else (msg_Is.j0 k true a0_0 a0_1 a0_2 a0_3 a0_4 a0_5 a0_6 l0_7))) else (msg_Is.j0 k true a0_0 a0_1 a0_2 a0_3 a0_4 a0_5 a0_6 l0_7))
theorem msg_Is.calls (k:Nat) (a0_0:Int) (a0_1:Int) (a0_2:Int) (a0_3:Int) (a0_4:Int) (a0_5:Int) (a0_6:Int) (A0_7:Option Addr) (c0_7:Nat) (l0_7:List ByteArray) (r:Bool) (w:World) (hr0_7:Kd.C Kd.string w A0_7 l0_7.length l0_7) (hc0_7:l0_7.length≤c0_7) (h:msg_Is.f k a0_0 a0_1 a0_2 a0_3 a0_4 a0_5 a0_6 l0_7=some r) :
  Calls Tryz.prog 44 #[.agg #[a0_0,a0_1,a0_2,a0_3,a0_4,a0_5,a0_6,.slice A0_7 l0_7.length c0_7]] w fun e w'=>e=.returned r∧Below w.heap.size w w':=by
 have hu28:=Tryz.underlying28
 have HR0_7:=sd hr0_7
 have HC0_7:=sd hc0_7
 clear hr0_7 hc0_7
 have HB:=sd (Below.refl w.heap.size w)
 have H:((msg_within.f a0_1 6).bind fun t387=>(if t387=true then ((msg_within.f a0_2 6).bind fun t388=>(if t388=true then ((msg_within.f a0_3 1000000).bind fun t389=>(msg_Is.j0 k (!t389) a0_0 a0_1 a0_2 a0_3 a0_4 a0_5 a0_6 l0_7)) else (msg_Is.j0 k true a0_0 a0_1 a0_2 a0_3 a0_4 a0_5 a0_6 l0_7))) else (msg_Is.j0 k true a0_0 a0_1 a0_2 a0_3 a0_4 a0_5 a0_6 l0_7)))=some r:=h
 clear h
 have HC2:=sd H
 clear H
 go_enter Tryz.func44,Tryz.ntmps44
 go_upto_region 1 with (((with_reducible refine gate_dst (N:=1) rfl ?_);refine box_event ?hg (N:=1) ?hd (cs:=#[a0_0,a0_1,a0_2,a0_3,a0_4,a0_5,a0_6,.slice A0_7 l0_7.length c0_7]) (t:=28) ?hr ?_;(case hd=>rfl);(case hg=>rfl);(case hr=>(go_simp;done));intro gb386 hg w3 hbox hb;have BK386:=sd (hbox);have GW386:=sd ((by rw [hg];exact (below_size HB.out):w.heap.size≤gb386));have GE386:=sd ((by rw [hg];exact (below_size HB.out):w.heap.size≤gb386));replace HB:=sd (below_step HB.out hb);clear hb hbox hg))
 skip
 go_cut [18] (fun v18 wc=>∃ (kq:Nat) (x18_1:Bool),v18=.bool x18_1∧Aside0 (msg_Is.j0 kq x18_1 a0_0 a0_1 a0_2 a0_3 a0_4 a0_5 a0_6 l0_7=some r)∧Aside0 (kq≤k)∧Aside0 (wc.heap[gb386]?=some (.cells #[a0_0,a0_1,a0_2,a0_3,a0_4,a0_5,a0_6,(.slice A0_7 l0_7.length c0_7)] 28 (0,0)))∧Aside0 (Below w.heap.size w wc))
 case first =>
  have H:=HC2.out
  clear HC2
  replace H:=Option.bind_eq_some_iff.mp H
  obtain ⟨t387,A40,H⟩:=H
  replace H:(if t387=true then ((msg_within.f a0_2 6).bind fun t388=>(if t388=true then ((msg_within.f a0_3 1000000).bind fun t389=>(msg_Is.j0 k (!t389) a0_0 a0_1 a0_2 a0_3 a0_4 a0_5 a0_6 l0_7)) else (msg_Is.j0 k true a0_0 a0_1 a0_2 a0_3 a0_4 a0_5 a0_6 l0_7))) else (msg_Is.j0 k true a0_0 a0_1 a0_2 a0_3 a0_4 a0_5 a0_6 l0_7))=some r:=H
  have A4:=sd A40
  clear A40
  by_cases c5:t387=true
  ·subst c5
   rw [if_pos rfl] at H
   replace H:=Option.bind_eq_some_iff.mp H
   obtain ⟨t388,A60,H⟩:=H
   replace H:(if t388=true then ((msg_within.f a0_3 1000000).bind fun t389=>(msg_Is.j0 k (!t389) a0_0 a0_1 a0_2 a0_3 a0_4 a0_5 a0_6 l0_7)) else (msg_Is.j0 k true a0_0 a0_1 a0_2 a0_3 a0_4 a0_5 a0_6 l0_7))=some r:=H
   have A6:=sd A60
   clear A60
   by_cases c7:t388=true
   ·subst c7
    rw [if_pos rfl] at H
    replace H:=Option.bind_eq_some_iff.mp H
    obtain ⟨t389,A80,H⟩:=H
    replace H:(msg_Is.j0 k (!t389) a0_0 a0_1 a0_2 a0_3 a0_4 a0_5 a0_6 l0_7)=some r:=H
    have A8:=sd A80
    clear A80
    have H':=sd H
    clear H
    obtain ⟨hcz9_0,hcz9_1,hcz9_2,hcz9_3,hcz9_4,hcz9_5,hcz9_6,hcz9_7⟩:=cells8 BK386.out
    have hfz9:=fr_of BK386.out
    go_wp2_with (first | ((with_reducible refine gate_callee (f:=77) rfl ?_);refine goesL_ (some 5) rfl rfl Tryz.func77 (by kernel_rfl) rfl #[a0_1,.int .i64 6] rfl (by (try simp only [List.map_toArray,List.map_cons,List.map_nil]);rfl) ?_;(with_reducible refine (msg_within.calls a0_1 6 true _ A4.out).mono ?_);rintro e w' ⟨rfl,⟨nd,rfl⟩⟩;refine ⟨_,rfl,?_⟩) | (go_at_call 77;(with_reducible refine (msg_within.calls a0_2 6 true _ A6.out).mono ?_);rintro e w' ⟨rfl,⟨nd,rfl⟩⟩) | (go_at_call 77;(with_reducible refine (msg_within.calls a0_3 1000000 t389 _ A8.out).mono ?_);rintro e w' ⟨rfl,⟨nd,rfl⟩⟩))
    go_meet
    case rel=>exact ⟨_,(!t389),(by rfl),H',⟨by omega⟩,⟨by (with_reducible repeat ((refine blk_drewN ?_ _)));exact BK386.out⟩,⟨by repeat ((with_reducible first | exact HB.out | apply pw_below_drewN))⟩⟩
   ·replace c7:=Bool.eq_false_iff.mpr c7
    subst c7
    rw [if_neg (show ¬ (false=true) by decide)] at H
    have H':=sd H
    clear H
    obtain ⟨hcz10_0,hcz10_1,hcz10_2,hcz10_3,hcz10_4,hcz10_5,hcz10_6,hcz10_7⟩:=cells8 BK386.out
    have hfz10:=fr_of BK386.out
    go_wp2_with (first | ((with_reducible refine gate_callee (f:=77) rfl ?_);refine goesL_ (some 5) rfl rfl Tryz.func77 (by kernel_rfl) rfl #[a0_1,.int .i64 6] rfl (by (try simp only [List.map_toArray,List.map_cons,List.map_nil]);rfl) ?_;(with_reducible refine (msg_within.calls a0_1 6 true _ A4.out).mono ?_);rintro e w' ⟨rfl,⟨nd,rfl⟩⟩;refine ⟨_,rfl,?_⟩) | (go_at_call 77;(with_reducible refine (msg_within.calls a0_2 6 false _ A6.out).mono ?_);rintro e w' ⟨rfl,⟨nd,rfl⟩⟩))
    go_meet
    case rel=>exact ⟨_,(true),(by rfl),H',⟨by omega⟩,⟨by (with_reducible repeat ((refine blk_drewN ?_ _)));exact BK386.out⟩,⟨by repeat ((with_reducible first | exact HB.out | apply pw_below_drewN))⟩⟩
  ·replace c5:=Bool.eq_false_iff.mpr c5
   subst c5
   rw [if_neg (show ¬ (false=true) by decide)] at H
   have H':=sd H
   clear H
   obtain ⟨hcz11_0,hcz11_1,hcz11_2,hcz11_3,hcz11_4,hcz11_5,hcz11_6,hcz11_7⟩:=cells8 BK386.out
   have hfz11:=fr_of BK386.out
   go_wp2_with (((with_reducible refine gate_callee (f:=77) rfl ?_);refine goesL_ (some 5) rfl rfl Tryz.func77 (by kernel_rfl) rfl #[a0_1,.int .i64 6] rfl (by (try simp only [List.map_toArray,List.map_cons,List.map_nil]);rfl) ?_;(with_reducible refine (msg_within.calls a0_1 6 false _ A4.out).mono ?_);rintro e w' ⟨rfl,⟨nd,rfl⟩⟩;refine ⟨_,rfl,?_⟩))
   go_meet
   case rel=>exact ⟨_,(true),(by rfl),H',⟨by omega⟩,⟨by (with_reducible repeat ((refine blk_drewN ?_ _)));exact BK386.out⟩,⟨by repeat ((with_reducible first | exact HB.out | apply pw_below_drewN))⟩⟩
 case rest =>
  clear HC2
  obtain ⟨kq,x18_1,rfl,HA,HJ1,BK386,HB⟩:=hcut
  cases kq with
  | zero=>exact absurd HA.out (by simp [msg_Is.j0])
  | succ kj1 =>
   have H:=HA.out
   clear HA
   simp only [msg_Is.j0] at H
   by_cases c12:x18_1=true
   ·subst c12
    rw [if_pos rfl] at H
    obtain rfl:=Option.some.inj H
    go_wp2
    go_ret
    exact ⟨by rfl,HB.out⟩
   ·replace c12:=Bool.eq_false_iff.mpr c12
    subst c12
    rw [if_neg (show ¬ (false=true) by decide)] at H
    by_cases c13:a0_0=1
    ·rw [if_pos c13] at H
     have c13b0:(a0_0==1)=true:=beq_iff_eq.mpr c13
     have c13b1:(a0_0 != 1)=false:=bne_eq_false_iff_eq.mpr c13
     clear c13
     replace H:=Option.bind_eq_some_iff.mp H
     obtain ⟨t390,A140,H⟩:=H
     replace H:(if t390=true then (if a0_4=0 then (some (a0_6==0)) else (some false)) else (some false))=some r:=H
     have A14:=sd A140
     clear A140
     by_cases c15:t390=true
     ·subst c15
      rw [if_pos rfl] at H
      by_cases c16:a0_4=0
      ·rw [if_pos c16] at H
       have c16b0:(a0_4==0)=true:=beq_iff_eq.mpr c16
       have c16b1:(a0_4 != 0)=false:=bne_eq_false_iff_eq.mpr c16
       clear c16
       obtain rfl:=Option.some.inj H
       obtain ⟨hcz17_0,hcz17_1,hcz17_2,hcz17_3,hcz17_4,hcz17_5,hcz17_6,hcz17_7⟩:=cells8 BK386.out
       have hfz17:=fr_of BK386.out
       go_wp2_with (((with_reducible refine gate_callee (f:=78) rfl ?_);refine goesL_ (some 27) rfl rfl Tryz.func78 (by kernel_rfl) rfl #[.slice A0_7 l0_7.length c0_7,a0_5] rfl (by (try simp only [List.map_toArray,List.map_cons,List.map_nil]);rfl) ?_;(with_reducible refine (msg_logged.calls kj1 _ _ l0_7 a0_5 true _ ?side1 ?side2 A14.out).mono ?_);(case side1=>exact (Kd.C_below HR0_7.out HB.out));(case side2=>exact HC0_7.out);rintro e w18 ⟨rfl,hb⟩;refine ⟨_,rfl,?_⟩;replace BK386:=sd (blk_below BK386.out hb);replace HB:=sd (below_step HB.out hb);(try clear hb);obtain ⟨hcz19_0,hcz19_1,hcz19_2,hcz19_3,hcz19_4,hcz19_5,hcz19_6,hcz19_7⟩:=cells8 BK386.out;have hfz19:=fr_of BK386.out))
       go_ret
       exact ⟨by rfl,HB.out⟩
      ·rw [if_neg c16] at H
       have c16b0:(a0_4==0)=false:=beq_eq_false_iff_ne.mpr c16
       have c16b1:(a0_4 != 0)=true:=bne_iff_ne.mpr c16
       obtain rfl:=Option.some.inj H
       obtain ⟨hcz20_0,hcz20_1,hcz20_2,hcz20_3,hcz20_4,hcz20_5,hcz20_6,hcz20_7⟩:=cells8 BK386.out
       have hfz20:=fr_of BK386.out
       go_wp2_with (((with_reducible refine gate_callee (f:=78) rfl ?_);refine goesL_ (some 27) rfl rfl Tryz.func78 (by kernel_rfl) rfl #[.slice A0_7 l0_7.length c0_7,a0_5] rfl (by (try simp only [List.map_toArray,List.map_cons,List.map_nil]);rfl) ?_;(with_reducible refine (msg_logged.calls kj1 _ _ l0_7 a0_5 true _ ?side1 ?side2 A14.out).mono ?_);(case side1=>exact (Kd.C_below HR0_7.out HB.out));(case side2=>exact HC0_7.out);rintro e w21 ⟨rfl,hb⟩;refine ⟨_,rfl,?_⟩;replace BK386:=sd (blk_below BK386.out hb);replace HB:=sd (below_step HB.out hb);(try clear hb);obtain ⟨hcz22_0,hcz22_1,hcz22_2,hcz22_3,hcz22_4,hcz22_5,hcz22_6,hcz22_7⟩:=cells8 BK386.out;have hfz22:=fr_of BK386.out))
       go_ret
       exact ⟨by rfl,HB.out⟩
     ·replace c15:=Bool.eq_false_iff.mpr c15
      subst c15
      rw [if_neg (show ¬ (false=true) by decide)] at H
      obtain rfl:=Option.some.inj H
      obtain ⟨hcz23_0,hcz23_1,hcz23_2,hcz23_3,hcz23_4,hcz23_5,hcz23_6,hcz23_7⟩:=cells8 BK386.out
      have hfz23:=fr_of BK386.out
      go_wp2_with (((with_reducible refine gate_callee (f:=78) rfl ?_);refine goesL_ (some 27) rfl rfl Tryz.func78 (by kernel_rfl) rfl #[.slice A0_7 l0_7.length c0_7,a0_5] rfl (by (try simp only [List.map_toArray,List.map_cons,List.map_nil]);rfl) ?_;(with_reducible refine (msg_logged.calls kj1 _ _ l0_7 a0_5 false _ ?side1 ?side2 A14.out).mono ?_);(case side1=>exact (Kd.C_below HR0_7.out HB.out));(case side2=>exact HC0_7.out);rintro e w24 ⟨rfl,hb⟩;refine ⟨_,rfl,?_⟩;replace BK386:=sd (blk_below BK386.out hb);replace HB:=sd (below_step HB.out hb);(try clear hb)))
      go_ret
      exact ⟨by rfl,HB.out⟩
    ·rw [if_neg c13] at H
     have c13b0:(a0_0==1)=false:=beq_eq_false_iff_ne.mpr c13
     have c13b1:(a0_0 != 1)=true:=bne_iff_ne.mpr c13
     by_cases c25:a0_0=2
     ·rw [if_pos c25] at H
      have c25b0:(a0_0==2)=true:=beq_iff_eq.mpr c25
      have c25b1:(a0_0 != 2)=false:=bne_eq_false_iff_eq.mpr c25
      clear c25
      by_cases c26:(l0_7.length:Int)=0
      ·rw [if_pos c26] at H
       have c26b0:((l0_7.length:Int)==0)=true:=beq_iff_eq.mpr c26
       have c26b1:((l0_7.length:Int) != 0)=false:=bne_eq_false_iff_eq.mpr c26
       clear c26
       by_cases c27:a0_5=0
       ·rw [if_pos c27] at H
        have c27b0:(a0_5==0)=true:=beq_iff_eq.mpr c27
        have c27b1:(a0_5 != 0)=false:=bne_eq_false_iff_eq.mpr c27
        clear c27
        by_cases c28:a0_4=0
        ·rw [if_pos c28] at H
         have c28b0:(a0_4==0)=true:=beq_iff_eq.mpr c28
         have c28b1:(a0_4 != 0)=false:=bne_eq_false_iff_eq.mpr c28
         clear c28
         replace H:=Option.bind_eq_some_iff.mp H
         obtain ⟨t391,A290,H⟩:=H
         replace H:(some t391)=some r:=H
         have A29:=sd A290
         clear A290
         obtain rfl:=Option.some.inj H
         obtain ⟨hcz30_0,hcz30_1,hcz30_2,hcz30_3,hcz30_4,hcz30_5,hcz30_6,hcz30_7⟩:=cells8 BK386.out
         have hfz30:=fr_of BK386.out
         go_wp2_with ((go_at_call 77;(with_reducible refine (msg_within.calls a0_6 60 t391 _ A29.out).mono ?_);rintro e w' ⟨rfl,⟨nd,rfl⟩⟩))
         go_ret
         exact ⟨by rfl,by repeat ((with_reducible first | exact HB.out | apply pw_below_drewN))⟩
        ·rw [if_neg c28] at H
         have c28b0:(a0_4==0)=false:=beq_eq_false_iff_ne.mpr c28
         have c28b1:(a0_4 != 0)=true:=bne_iff_ne.mpr c28
         obtain rfl:=Option.some.inj H
         obtain ⟨hcz31_0,hcz31_1,hcz31_2,hcz31_3,hcz31_4,hcz31_5,hcz31_6,hcz31_7⟩:=cells8 BK386.out
         have hfz31:=fr_of BK386.out
         go_wp2
         go_ret
         exact ⟨by rfl,HB.out⟩
       ·rw [if_neg c27] at H
        have c27b0:(a0_5==0)=false:=beq_eq_false_iff_ne.mpr c27
        have c27b1:(a0_5 != 0)=true:=bne_iff_ne.mpr c27
        obtain rfl:=Option.some.inj H
        obtain ⟨hcz32_0,hcz32_1,hcz32_2,hcz32_3,hcz32_4,hcz32_5,hcz32_6,hcz32_7⟩:=cells8 BK386.out
        have hfz32:=fr_of BK386.out
        go_wp2
        go_ret
        exact ⟨by rfl,HB.out⟩
      ·rw [if_neg c26] at H
       have c26b0:((l0_7.length:Int)==0)=false:=beq_eq_false_iff_ne.mpr c26
       have c26b1:((l0_7.length:Int) != 0)=true:=bne_iff_ne.mpr c26
       have c26b2:¬ (l0_7=[]):=fun h_=>c26 (by rw [h_];rfl)
       obtain rfl:=Option.some.inj H
       obtain ⟨hcz33_0,hcz33_1,hcz33_2,hcz33_3,hcz33_4,hcz33_5,hcz33_6,hcz33_7⟩:=cells8 BK386.out
       have hfz33:=fr_of BK386.out
       go_wp2
       go_ret
       exact ⟨by rfl,HB.out⟩
     ·rw [if_neg c25] at H
      have c25b0:(a0_0==2)=false:=beq_eq_false_iff_ne.mpr c25
      have c25b1:(a0_0 != 2)=true:=bne_iff_ne.mpr c25
      by_cases c34:a0_0=3
      ·rw [if_pos c34] at H
       have c34b0:(a0_0==3)=true:=beq_iff_eq.mpr c34
       have c34b1:(a0_0 != 3)=false:=bne_eq_false_iff_eq.mpr c34
       clear c34
       replace H:=Option.bind_eq_some_iff.mp H
       obtain ⟨t392,A350,H⟩:=H
       replace H:(if t392=true then ((msg_within.f a0_4 a0_3).bind fun t393=>(if t393=true then (some (a0_6==0)) else (some false))) else (some false))=some r:=H
       have A35:=sd A350
       clear A350
       by_cases c36:t392=true
       ·subst c36
        rw [if_pos rfl] at H
        replace H:=Option.bind_eq_some_iff.mp H
        obtain ⟨t393,A370,H⟩:=H
        replace H:(if t393=true then (some (a0_6==0)) else (some false))=some r:=H
        have A37:=sd A370
        clear A370
        by_cases c38:t393=true
        ·subst c38
         rw [if_pos rfl] at H
         obtain rfl:=Option.some.inj H
         obtain ⟨hcz39_0,hcz39_1,hcz39_2,hcz39_3,hcz39_4,hcz39_5,hcz39_6,hcz39_7⟩:=cells8 BK386.out
         have hfz39:=fr_of BK386.out
         go_wp2_with (first | ((with_reducible refine gate_callee (f:=78) rfl ?_);refine goesL_ (some 65) rfl rfl Tryz.func78 (by kernel_rfl) rfl #[.slice A0_7 l0_7.length c0_7,a0_5] rfl (by (try simp only [List.map_toArray,List.map_cons,List.map_nil]);rfl) ?_;(with_reducible refine (msg_logged.calls kj1 _ _ l0_7 a0_5 true _ ?side1 ?side2 A35.out).mono ?_);(case side1=>exact (Kd.C_below HR0_7.out HB.out));(case side2=>exact HC0_7.out);rintro e w40 ⟨rfl,hb⟩;refine ⟨_,rfl,?_⟩;replace BK386:=sd (blk_below BK386.out hb);replace HB:=sd (below_step HB.out hb);(try clear hb);obtain ⟨hcz41_0,hcz41_1,hcz41_2,hcz41_3,hcz41_4,hcz41_5,hcz41_6,hcz41_7⟩:=cells8 BK386.out;have hfz41:=fr_of BK386.out) | (go_at_call 77;(with_reducible refine (msg_within.calls a0_4 a0_3 true _ A37.out).mono ?_);rintro e w' ⟨rfl,⟨nd,rfl⟩⟩))
         go_ret
         exact ⟨by rfl,by repeat ((with_reducible first | exact HB.out | apply pw_below_drewN))⟩
        ·replace c38:=Bool.eq_false_iff.mpr c38
         subst c38
         rw [if_neg (show ¬ (false=true) by decide)] at H
         obtain rfl:=Option.some.inj H
         obtain ⟨hcz42_0,hcz42_1,hcz42_2,hcz42_3,hcz42_4,hcz42_5,hcz42_6,hcz42_7⟩:=cells8 BK386.out
         have hfz42:=fr_of BK386.out
         go_wp2_with (first | ((with_reducible refine gate_callee (f:=78) rfl ?_);refine goesL_ (some 65) rfl rfl Tryz.func78 (by kernel_rfl) rfl #[.slice A0_7 l0_7.length c0_7,a0_5] rfl (by (try simp only [List.map_toArray,List.map_cons,List.map_nil]);rfl) ?_;(with_reducible refine (msg_logged.calls kj1 _ _ l0_7 a0_5 true _ ?side1 ?side2 A35.out).mono ?_);(case side1=>exact (Kd.C_below HR0_7.out HB.out));(case side2=>exact HC0_7.out);rintro e w43 ⟨rfl,hb⟩;refine ⟨_,rfl,?_⟩;replace BK386:=sd (blk_below BK386.out hb);replace HB:=sd (below_step HB.out hb);(try clear hb);obtain ⟨hcz44_0,hcz44_1,hcz44_2,hcz44_3,hcz44_4,hcz44_5,hcz44_6,hcz44_7⟩:=cells8 BK386.out;have hfz44:=fr_of BK386.out) | (go_at_call 77;(with_reducible refine (msg_within.calls a0_4 a0_3 false _ A37.out).mono ?_);rintro e w' ⟨rfl,⟨nd,rfl⟩⟩))
         go_ret
         exact ⟨by rfl,by repeat ((with_reducible first | exact HB.out | apply pw_below_drewN))⟩
       ·replace c36:=Bool.eq_false_iff.mpr c36
        subst c36
        rw [if_neg (show ¬ (false=true) by decide)] at H
        obtain rfl:=Option.some.inj H
        obtain ⟨hcz45_0,hcz45_1,hcz45_2,hcz45_3,hcz45_4,hcz45_5,hcz45_6,hcz45_7⟩:=cells8 BK386.out
        have hfz45:=fr_of BK386.out
        go_wp2_with (((with_reducible refine gate_callee (f:=78) rfl ?_);refine goesL_ (some 65) rfl rfl Tryz.func78 (by kernel_rfl) rfl #[.slice A0_7 l0_7.length c0_7,a0_5] rfl (by (try simp only [List.map_toArray,List.map_cons,List.map_nil]);rfl) ?_;(with_reducible refine (msg_logged.calls kj1 _ _ l0_7 a0_5 false _ ?side1 ?side2 A35.out).mono ?_);(case side1=>exact (Kd.C_below HR0_7.out HB.out));(case side2=>exact HC0_7.out);rintro e w46 ⟨rfl,hb⟩;refine ⟨_,rfl,?_⟩;replace BK386:=sd (blk_below BK386.out hb);replace HB:=sd (below_step HB.out hb);(try clear hb)))
        go_ret
        exact ⟨by rfl,HB.out⟩
      ·rw [if_neg c34] at H
       have c34b0:(a0_0==3)=false:=beq_eq_false_iff_ne.mpr c34
       have c34b1:(a0_0 != 3)=true:=bne_iff_ne.mpr c34
       obtain rfl:=Option.some.inj H
       obtain ⟨hcz47_0,hcz47_1,hcz47_2,hcz47_3,hcz47_4,hcz47_5,hcz47_6,hcz47_7⟩:=cells8 BK386.out
       have hfz47:=fr_of BK386.out
       go_wp2
       go_ret
       exact ⟨by rfl,HB.out⟩
def slices_Clone_string_string.f (l0:List ByteArray):Option (List ByteArray):=if l0.length < 4398046511104 then some l0 else none
theorem slices_Clone_string_string.calls (A0:Option Addr) (c0:Nat) (l0:List ByteArray) (r:List ByteArray) (w:World) (hr0:Kd.C Kd.string w A0 l0.length l0) (hc0:l0.length≤c0) (h:slices_Clone_string_string.f l0=some r) :
  Calls Tryz.prog 66 #[.slice A0 l0.length c0] w fun e w'=>∃ v0_:Value,e=.returned (v0_)∧Kd.R Kd.string 9 w' w.heap.size (fun _=>True) v0_ r∧Below w.heap.size w w':=by
 unfold slices_Clone_string_string.f at h
 split at h
 case isFalse=>cases h
 rename_i hl
 obtain rfl:=Option.some.inj h
 have HR:=sd hr0
 have HL:=sd hl
 have he:=x_eql_nil (P:=Tryz.prog) 22 9 Tryz.underlying22
 rcases A0 with _ | ad
 ·have h0:l0=[]:=List.eq_nil_of_length_eq_zero (by
   rcases Nat.eq_zero_or_pos l0.length with h | h
   ·exact h
   ·obtain ⟨ad,h,_⟩:=hr0.2.2 h
    cases h)
  subst h0
  clear hr0 h hl HR
  go_enter Tryz.func66,Tryz.ntmps66
  go_wp2
  go_ret
  exact ⟨_,rfl,Kd.R_nil _ _ _ _ _,Below.refl _ _⟩
 ·clear hr0 h hl
  go_enter Tryz.func66,Tryz.ntmps66
  go_wp2_with (((with_reducible refine gate_builtin (b:=.append) (xs:=#[.tmp 5,.tmp 6]) rfl ?_);at_builtin;refine Kd.R_append_rows Kd.string (w0:=w) w.heap.size rfl (.tmp 5) (.tmp 6) 22 9 (.string ⟨#[]⟩) 16 rfl Tryz.underlying22 info9 rfl (by decide) (by omega) (.slice (some ⟨w.heap.size,0,none⟩) 0 0) ([]:List ByteArray) l0 _ _ _ (fun _=>True) (fun _=>False) rfl rfl ?aO ?aR (fun _ _ h=>h) (fun _ h=>h.elim) ?aF ?aB ?aS ?aL ?_;(case aR=>exact Kd.C_alloc HR.out _);(case aB=>exact below_alloc (Below.refl _ _) _);(case aF=>exact (fun _ _=>trivial));(case aO=>exact Kd.R_empty _ _ _ _ _ (Nat.le_refl _) trivial);(case aS=>exact (by simp));(case aL=>have:=HL.out;simp;omega);intro v1 w1 ho hb hg hat;have HO:=sd ho;have HB:=sd hb;clear ho hb hg hat))
  go_ret
  exact ⟨_,rfl,HO.out,HB.out⟩
def msg_Prepare.f (a0:Int) (a1:Int) (a2:Int) (a3:Int) (l4:List ByteArray):Option (Int×Int×Int×Int×Int×Int×Int×List ByteArray):=(slices_Clone_string_string.f l4).bind fun t395=>(some (1,a0,a1,a2,0,a3,0,t395))
theorem msg_Prepare.calls (a0:Int) (a1:Int) (a2:Int) (a3:Int) (A4:Option Addr) (c4:Nat) (l4:List ByteArray) (r1:Int) (r2:Int) (r3:Int) (r4:Int) (r5:Int) (r6:Int) (r7:Int) (r8:List ByteArray) (w:World) (hr4:Kd.C Kd.string w A4 l4.length l4) (hc4:l4.length≤c4) (h:msg_Prepare.f a0 a1 a2 a3 l4=some (r1,r2,r3,r4,r5,r6,r7,r8)) :
  Calls Tryz.prog 70 #[a0,a1,a2,a3,.slice A4 l4.length c4] w fun e w'=>∃ v7_:Value,e=.returned (.agg #[r1,r2,r3,r4,r5,r6,r7,v7_])∧Kd.R Kd.string 9 w' w.heap.size (fun _=>True) v7_ r8∧Below w.heap.size w w':=by
 have hu28:=Tryz.underlying28
 have HR4:=sd hr4
 have HC4:=sd hc4
 clear hr4 hc4
 have HB:=sd (Below.refl w.heap.size w)
 have H:((slices_Clone_string_string.f l4).bind fun t395=>(some (1,a0,a1,a2,0,a3,0,t395)))=some (r1,r2,r3,r4,r5,r6,r7,r8):=h
 clear h
 replace H:=Option.bind_eq_some_iff.mp H
 obtain ⟨t395,A60,H⟩:=H
 replace H:(some (1,a0,a1,a2,0,a3,0,t395))=some (r1,r2,r3,r4,r5,r6,r7,r8):=H
 have A6:=sd A60
 clear A60
 simp only [Option.some.injEq,Prod.mk.injEq] at H
 obtain ⟨rfl,rfl,rfl,rfl,rfl,rfl,rfl,rfl⟩:=H
 go_enter Tryz.func70,Tryz.ntmps70
 go_wp2_with (first | ((with_reducible refine gate_dst (N:=10) rfl ?_);refine box_event ?hg (N:=10) ?hd (cs:=#[.int .i64 0,.int .i64 0,.int .i64 0,.int .i64 0,.int .i64 0,.int .i64 0,.int .i64 0,.slice none 0 0]) (t:=28) ?hr ?_;(case hd=>rfl);(case hg=>rfl);(case hr=>(go_simp;done));intro gb394 hg w7 hbox hb;have BK394:=sd (hbox);have GW394:=sd ((by rw [hg];exact (below_size HB.out):w.heap.size≤gb394));have GE394:=sd ((by rw [hg];exact (below_size HB.out):w.heap.size≤gb394));replace HB:=sd (below_step HB.out hb);clear hb hbox hg) | ((with_reducible refine gate_callee (f:=66) rfl ?_);refine goesL_ (some 16) rfl rfl Tryz.func66 (by kernel_rfl) rfl #[.slice A4 l4.length c4] rfl (by (try simp only [List.map_toArray,List.map_cons,List.map_nil]);rfl) ?_;(with_reducible refine (slices_Clone_string_string.calls _ _ l4 t395 _ ?side1 ?side2 A6.out).mono ?_);(case side1=>exact (Kd.C_below HR4.out HB.out));(case side2=>exact HC4.out);rintro e w8 ⟨v396,rfl,ho0,hb⟩;refine ⟨_,rfl,?_⟩;have HO397:=sd (Kd.R_lower ho0 (below_size HB.out));replace BK394:=sd (blk_below BK394.out hb);replace HB:=sd (below_step HB.out hb);(try clear hb);(try clear ho0);obtain ⟨Ao9,co9,eo9⟩:=Kd.R_slice HO397.out;subst eo9;obtain ⟨hcz10_0,hcz10_1,hcz10_2,hcz10_3,hcz10_4,hcz10_5,hcz10_6,hcz10_7⟩:=cells8 BK394.out;have hfz10:=fr_of BK394.out))
 refine bodyPost_ret (results_cell_row rfl _ _ gb394 28 #[.int .i64 1,a0,a1,a2,.int .i64 0,a3,.int .i64 0,.slice Ao9 t395.length co9] (0,0) _ rfl (by (with_reducible repeat (fail));refine blk_put (cs:=#[.int .i64 1,a0,a1,a2,.int .i64 0,a3,.int .i64 0,.slice none 0 0]) ?_ 7 _ rfl;(with_reducible repeat (fail));refine blk_put (cs:=#[.int .i64 1,a0,a1,a2,.int .i64 0,a3,.int .i64 0,.slice none 0 0]) ?_ 6 _ rfl;(with_reducible repeat (fail));refine blk_put (cs:=#[.int .i64 1,a0,a1,a2,.int .i64 0,.int .i64 0,.int .i64 0,.slice none 0 0]) ?_ 5 _ rfl;(with_reducible repeat (fail));refine blk_put (cs:=#[.int .i64 1,a0,a1,a2,.int .i64 0,.int .i64 0,.int .i64 0,.slice none 0 0]) ?_ 4 _ rfl;(with_reducible repeat (fail));refine blk_put (cs:=#[.int .i64 1,a0,a1,.int .i64 0,.int .i64 0,.int .i64 0,.int .i64 0,.slice none 0 0]) ?_ 3 _ rfl;(with_reducible repeat (fail));refine blk_put (cs:=#[.int .i64 1,a0,.int .i64 0,.int .i64 0,.int .i64 0,.int .i64 0,.int .i64 0,.slice none 0 0]) ?_ 2 _ rfl;(with_reducible repeat (fail));refine blk_put (cs:=#[.int .i64 1,.int .i64 0,.int .i64 0,.int .i64 0,.int .i64 0,.int .i64 0,.int .i64 0,.slice none 0 0]) ?_ 1 _ rfl;(with_reducible repeat (fail));refine blk_put (cs:=#[.int .i64 0,.int .i64 0,.int .i64 0,.int .i64 0,.int .i64 0,.int .i64 0,.int .i64 0,.slice none 0 0]) ?_ 0 _ rfl;(with_reducible repeat (fail));exact BK394.out) Tryz.underlying28 rfl (by kernel_rfl)) rfl ?_
 exact ⟨_,by rfl,by (with_reducible repeat (fail));exact Kd.R_mono (Kd.R_far (p:=⟨gb394,7,none⟩) (Kd.R_far (p:=⟨gb394,6,none⟩) (Kd.R_far (p:=⟨gb394,5,none⟩) (Kd.R_far (p:=⟨gb394,4,none⟩) (Kd.R_far (p:=⟨gb394,3,none⟩) (Kd.R_far (p:=⟨gb394,2,none⟩) (Kd.R_far (p:=⟨gb394,1,none⟩) (Kd.R_far (p:=⟨gb394,0,none⟩) (Kd.R_types HO397.out BK394.out (by decide)) (fun _ hk=>hk.2) (.int .i64 1)) (fun _ hk=>hk.2) a0) (fun _ hk=>hk.2) a1) (fun _ hk=>hk.2) a2) (fun _ hk=>hk.2) (.int .i64 0)) (fun _ hk=>hk.2) a3) (fun _ hk=>hk.2) (.int .i64 0)) (fun _ hk=>hk.2) (.slice Ao9 t395.length co9)) (fun _ hk=>trivial),by repeat ((with_reducible first | exact HB.out | refine below_set ?_ GE394.out))⟩
end
end Go.Proofs.YtfpfpckocemmdaaGreat.P
