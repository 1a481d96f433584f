/- Part 37 of the walk. -/
import Derived.Test.YtfpfpckocemmdaaGreatCDoes36
set_option linter.unusedVariables false
set_option linter.unusedSimpArgs false
set_option maxHeartbeats 8000000
set_option maxRecDepth 100000
namespace Go.Proofs.YtfpfpckocemmdaaGreat.P
open Go.RowKit Go.Proofs.YtfpfpckocemmdaaGreatW.PrintWords Go.Proofs.YtfpfpckocemmdaaGreatW.PrintLast Go.Proofs.YtfpfpckocemmdaaGreatW.PrintMore
section
attribute [local go_sem] max2_int min2_int max_two min_two max_three min_three max_four min_four   -- for this text's walks alone
def sextonref23_Cast.f (a0:Int) (a1:Int) (a2_0:Int) (a2_1:Int) (a2_2:Int) (l2_3:List ByteArray):Option (Int×Int×Int×Int×Int×Int×Int×List ByteArray):=(sextonref01_Own.f l2_3).bind fun t250=>(some (3,a2_0,a0,a1,a2_1,a2_2,0,t250))
def sextonref23_Cast.T1:Bool×List (List Nat×List Nat):=(true,[([],[]),([0],[0]),([],[]),([],[]),([],[]),([4],[4]),([],[]),([6],[6]),([],[]),([8],[8]),([9],[9]),([1,2,3,5,7,10],[1,2,3,5,7,10]),([11,10,0,1,2,3,4,5,6,7,8,9,10,11],[11])])
def sextonref23_Cast.B1:List Nat:=[0,1,0,0,0,16,0,64,0,256,768,2047,4095]
theorem sextonref23_Cast.tab1:rtab .any (opsOf Tryz.f41 1)=sextonref23_Cast.T1:=by kernel_rfl
theorem sextonref23_Cast.bits1:waitsOk sextonref23_Cast.T1.2 sextonref23_Cast.B1=true:=by kernel_rfl
theorem sextonref23_Cast.calls (a0:Int) (a1:Int) (a2_0:Int) (a2_1:Int) (a2_2:Int) (A2_3:Option Addr) (c2_3:Nat) (l2_3:List ByteArray) (r1:Int) (r2:Int) (r3:Int) (r4:Int) (r5:Int) (r6:Int) (r7:Int) (r8:List ByteArray) (w:World) (hr2_3:Kd.C Kd.string w A2_3 l2_3.length l2_3) (hc2_3:l2_3.length≤c2_3) (h:sextonref23_Cast.f a0 a1 a2_0 a2_1 a2_2 l2_3=some (r1,r2,r3,r4,r5,r6,r7,r8)) :
  Calls Tryz.prog 41 #[.int .i64 a0,.int .i64 a1,.agg #[a2_0,a2_1,a2_2,.slice A2_3 l2_3.length c2_3]] w fun e w'=>∃ v7_:Value,e=.returned (.agg #[r1,r2,r3,r4,r5,r6,r7,v7_])∧Kd.R Kd.string 9 w' w.heap.size (fun _=>True) v7_ r8∧Below w.heap.size w w':=by
 have hu63:=Tryz.underlying63
 have hu28:=Tryz.underlying28
 have HR2_3:=sd hr2_3
 have HC2_3:=sd hc2_3
 clear hr2_3 hc2_3
 have HB:=sd (Below.refl w.heap.size w)
 have H:((sextonref01_Own.f l2_3).bind fun t250=>(some (3,a2_0,a0,a1,a2_1,a2_2,0,t250)))=some (r1,r2,r3,r4,r5,r6,r7,r8):=h
 clear h
 replace H:=Option.bind_eq_some_iff.mp H
 obtain ⟨t250,A40,H⟩:=H
 replace H:(some (3,a2_0,a0,a1,a2_1,a2_2,0,t250))=some (r1,r2,r3,r4,r5,r6,r7,r8):=H
 have A4:=sd A40
 clear A40
 simp only [Option.some.injEq,Prod.mk.injEq] at H
 obtain ⟨rfl,rfl,rfl,rfl,rfl,rfl,rfl,rfl⟩:=H
 go_enter Tryz.func41,Tryz.ntmps41
 try go_wp2_with (first | ((with_reducible refine gate_dst (N:=5) rfl ?_);refine box_event ?hg (N:=5) ?hd (cs:=#[a2_0,a2_1,a2_2,.slice A2_3 l2_3.length c2_3]) (t:=63) ?hr ?_;(case hd=>rfl);(case hg=>rfl);(case hr=>(go_simp;done));intro gb248 hg w5 hbox hb;have BK248:=sd (hbox);have GW248:=sd ((by rw [hg];exact (below_size HB.out):w.heap.size≤gb248));have GE248:=sd ((by rw [hg];exact (below_size HB.out):w.heap.size≤gb248));replace HB:=sd (below_step HB.out hb);clear hb hbox hg) | ((with_reducible refine gate_dst (N:=6) rfl ?_);refine box_event ?hg (N:=6) ?hd (cs:=#[.int .i64 0,.int .i64 0,.int .i64 0,.int .i64 0,.int .i64 0,.int .i64 0,.int .i64 0,.slice none 0 0]) (t:=28) ?hr ?_;(case hd=>rfl);(case hg=>rfl);(case hr=>(go_simp;done));intro gb249 hg w6 hbox hb;have BK249:=sd (hbox);have GW249:=sd ((by rw [hg];exact (below_size HB.out):w.heap.size≤gb249));have GE249:=sd ((by rw [hg];exact (below_size HB.out):w.heap.size≤gb249));replace HB:=sd (below_step HB.out hb);have NB248_249:=sd ((by rw [hg];exact Nat.ne_of_lt (blk_lt BK248.out):gb248≠gb249));have NB249_248:=sd ((by rw [hg];exact Nat.ne_of_gt (blk_lt BK248.out):gb249≠gb248));replace BK248:=sd (blk_below BK248.out hb);clear hb hbox hg))
 replace BK248:=sd (blk_drew BK248.out)
 replace BK249:=sd (blk_drew BK249.out)
 replace HB:=sd (below_drew1 HB.out)
 refine start_ (n:=13) (S:=fun w'=>w'.cell? ⟨gb248,0,none⟩=some (.int .i64 a2_0)∧w'.cell? ⟨gb248,1,none⟩=some (.int .i64 a2_1)∧w'.cell? ⟨gb248,2,none⟩=some (.int .i64 a2_2)∧w'.cell? ⟨gb248,3,none⟩=some (.slice A2_3 l2_3.length c2_3)) (ds:=[]) #[false,false,false,false,false,false,false,false,false,false,false,false,false] (by kernel_rfl) rfl rfl ⟨(blk_cell BK248.out 0).trans rfl,(blk_cell BK248.out 1).trans rfl,(blk_cell BK248.out 2).trans rfl,(blk_cell BK248.out 3).trans rfl⟩ (fun hHeld=>?_);refine with_tabW sextonref23_Cast.tab1 sextonref23_Cast.bits1 (fun HT_ HW_=>?_)
 generalize w6.drew=w7 at BK248 BK249 HB hHeld ⊢
 refine pure_ (i:=0) (N:=some 7) (v:=?_) (a':=?_) #[true,false,false,false,false,false,false,false,false,false,false,false,false] rfl rfl (any_of HT_.out (by kernel_rfl)) (fun _ _ _ h=>h) (Or.inl ⟨by rfl,?_⟩) ?_ ?_
 rotate_left
 ·intro w'
  go_simp
  with_reducible rfl
 rotate_left
 ·simp only [Act.put,List.setIfInBounds_toArray,List.set_cons_zero,List.set_cons_succ,i64_w,i32_w]
  rfl
 refine pure_ (i:=2) (N:=some 9) (v:=?_) (a':=?_) #[true,false,true,false,false,false,false,false,false,false,false,false,false] rfl rfl (any_of HT_.out (by kernel_rfl)) (fun _ _ _ h=>h) (Or.inl ⟨by rfl,?_⟩) ?_ ?_
 rotate_left
 ·intro w'
  go_simp
  with_reducible rfl
 rotate_left
 ·simp only [Act.put,List.setIfInBounds_toArray,List.set_cons_zero,List.set_cons_succ,i64_w,i32_w]
  rfl
 refine pure_ (i:=3) (N:=some 10) (v:=?_) (a':=?_) #[true,false,true,true,false,false,false,false,false,false,false,false,false] rfl rfl (any_of HT_.out (by kernel_rfl)) (fun _ _ _ h=>h) (Or.inl ⟨by rfl,?_⟩) ?_ ?_
 rotate_left
 ·intro w'
  go_simp
  with_reducible rfl
 rotate_left
 ·simp only [Act.put,List.setIfInBounds_toArray,List.set_cons_zero,List.set_cons_succ,i64_w,i32_w]
  rfl
 refine pure_ (i:=4) (N:=some 11) (v:=?_) (a':=?_) #[true,false,true,true,true,false,false,false,false,false,false,false,false] rfl rfl (any_of HT_.out (by kernel_rfl)) (fun _ _ _ h=>h) (Or.inl ⟨by rfl,?_⟩) ?_ ?_
 rotate_left
 ·intro w'
  go_simp
  with_reducible rfl
 rotate_left
 ·simp only [Act.put,List.setIfInBounds_toArray,List.set_cons_zero,List.set_cons_succ,i64_w,i32_w]
  rfl
 refine pure_ (i:=6) (N:=some 13) (v:=?_) (a':=?_) #[true,false,true,true,true,false,true,false,false,false,false,false,false] rfl rfl (any_of HT_.out (by kernel_rfl)) (fun _ _ _ h=>h) (Or.inl ⟨by rfl,?_⟩) ?_ ?_
 rotate_left
 ·intro w'
  go_simp
  with_reducible rfl
 rotate_left
 ·simp only [Act.put,List.setIfInBounds_toArray,List.set_cons_zero,List.set_cons_succ,i64_w,i32_w]
  rfl
 refine pure_ (i:=8) (N:=some 15) (v:=?_) (a':=?_) #[true,false,true,true,true,false,true,false,true,false,false,false,false] rfl rfl (any_of HT_.out (by kernel_rfl)) (fun _ _ _ h=>h) (Or.inl ⟨by rfl,?_⟩) ?_ ?_
 rotate_left
 ·intro w'
  go_simp
  with_reducible rfl
 rotate_left
 ·simp only [Act.put,List.setIfInBounds_toArray,List.set_cons_zero,List.set_cons_succ,i64_w,i32_w]
  rfl
 refine take_ (i:=1) (N:=some 8) (v:=?_) (a':=?_) #[true,true,true,true,true,false,true,false,true,false,false,false,false] rfl rfl (take_ofW HT_.out HW_.out (by kernel_rfl)) (fun _ _ _ h=>h) (Or.inl ⟨by rfl,?_⟩) hHeld ?_ ?_
 rotate_left
 ·rintro w' ⟨s0,s1,s2,s3⟩
  go_simp
  with_reducible rfl
 rotate_left
 ·simp only [Act.put,List.setIfInBounds_toArray,List.set_cons_zero,List.set_cons_succ,i64_w,i32_w]
  rfl
 refine take_ (i:=5) (N:=some 12) (v:=?_) (a':=?_) #[true,true,true,true,true,true,true,false,true,false,false,false,false] rfl rfl (take_ofW HT_.out HW_.out (by kernel_rfl)) (fun _ _ _ h=>h) (Or.inl ⟨by rfl,?_⟩) hHeld ?_ ?_
 rotate_left
 ·rintro w' ⟨s0,s1,s2,s3⟩
  go_simp
  with_reducible rfl
 rotate_left
 ·simp only [Act.put,List.setIfInBounds_toArray,List.set_cons_zero,List.set_cons_succ,i64_w,i32_w]
  rfl
 refine take_ (i:=7) (N:=some 14) (v:=?_) (a':=?_) #[true,true,true,true,true,true,true,true,true,false,false,false,false] rfl rfl (take_ofW HT_.out HW_.out (by kernel_rfl)) (fun _ _ _ h=>h) (Or.inl ⟨by rfl,?_⟩) hHeld ?_ ?_
 rotate_left
 ·rintro w' ⟨s0,s1,s2,s3⟩
  go_simp
  with_reducible rfl
 rotate_left
 ·simp only [Act.put,List.setIfInBounds_toArray,List.set_cons_zero,List.set_cons_succ,i64_w,i32_w]
  rfl
 refine take_ (i:=9) (N:=some 16) (v:=?_) (a':=?_) #[true,true,true,true,true,true,true,true,true,true,false,false,false] rfl rfl (take_ofW HT_.out HW_.out (by kernel_rfl)) (fun _ _ _ h=>h) (Or.inl ⟨by rfl,?_⟩) hHeld ?_ ?_
 rotate_left
 ·rintro w' ⟨s0,s1,s2,s3⟩
  go_simp
  with_reducible rfl
 rotate_left
 ·simp only [Act.put,List.setIfInBounds_toArray,List.set_cons_zero,List.set_cons_succ,i64_w,i32_w]
  rfl
 refine one_ (i:=10) (N:=some 17) #[true,true,true,true,true,true,true,true,true,true,true,false,false] rfl rfl (one_of HT_.out (by kernel_rfl)) (by decide) (fun K hK=>?_)
 refine goes_ Tryz.func24 (by kernel_rfl) rfl #[.slice A2_3 l2_3.length c2_3] (by rfl) rfl rfl (by (try simp only [List.map_toArray,List.map_cons,List.map_nil]);rfl) ?_
 with_reducible refine (sextonref01_Own.calls _ _ l2_3 t250 _ ?side1 ?side2 A4.out).mono ?_
 (case side1=>exact (Kd.C_below HR2_3.out HB.out))
 (case side2=>exact HC2_3.out)
 rintro e w8 ⟨v251,rfl,ho0,hb⟩
 refine ⟨_,rfl,?_⟩
 have HO252:=sd (Kd.R_lower ho0 (below_size HB.out))
 replace BK248:=sd (blk_below BK248.out hb)
 replace BK249:=sd (blk_below BK249.out hb)
 replace HB:=sd (below_step HB.out hb)
 (try clear hb)
 skip
 skip
 skip
 (try clear ho0)
 obtain ⟨Ao9,co9,eo9⟩:=Kd.R_slice HO252.out
 ((subst eo9))
 refine hK.out _ _ ⟨(blk_cell BK248.out 0).trans rfl,(blk_cell BK248.out 1).trans rfl,(blk_cell BK248.out 2).trans rfl,(blk_cell BK248.out 3).trans rfl⟩ (fun hHeld=>?_)
 clear hK K
 refine norm_ (a':=?_) ?_ ?_
 rotate_left
 ·show Act.put _ (some 17) _=_
  simp only [Act.put,List.setIfInBounds_toArray,List.set_cons_zero,List.set_cons_succ,i64_w,i32_w]
  rfl
 refine pure_ (i:=11) (N:=some 18) (v:=?_) (a':=?_) #[true,true,true,true,true,true,true,true,true,true,true,true,false] rfl rfl (any_of HT_.out (by kernel_rfl)) (fun _ _ _ h=>h) (Or.inl ⟨by rfl,?_⟩) ?_ ?_
 rotate_left
 ·intro w'
  go_simp
  with_reducible rfl
 rotate_left
 ·simp only [Act.put,List.setIfInBounds_toArray,List.set_cons_zero,List.set_cons_succ,i64_w,i32_w]
  rfl
 refine one_ (i:=12) (N:=none) #[true,true,true,true,true,true,true,true,true,true,true,true,true] rfl rfl (one_of HT_.out (by kernel_rfl)) (by decide) (fun K hK=>?_)
 have hs10:w8.cell? ⟨gb249,0,none⟩=some (.int .i64 0):=(blk_cell BK249.out 0).trans rfl
 have hfs10:=blk_frozen BK249.out 0
 have hns10_0:=NB248_249.out
 have hms10_0:=NB249_248.out
 have hs11:w8.cell? ⟨gb249,1,none⟩=some (.int .i64 0):=(blk_cell BK249.out 1).trans rfl
 have hfs11:=blk_frozen BK249.out 1
 have hns11_0:=NB248_249.out
 have hms11_0:=NB249_248.out
 have hs12:w8.cell? ⟨gb249,2,none⟩=some (.int .i64 0):=(blk_cell BK249.out 2).trans rfl
 have hfs12:=blk_frozen BK249.out 2
 have hns12_0:=NB248_249.out
 have hms12_0:=NB249_248.out
 have hs13:w8.cell? ⟨gb249,3,none⟩=some (.int .i64 0):=(blk_cell BK249.out 3).trans rfl
 have hfs13:=blk_frozen BK249.out 3
 have hns13_0:=NB248_249.out
 have hms13_0:=NB249_248.out
 have hs14:w8.cell? ⟨gb249,4,none⟩=some (.int .i64 0):=(blk_cell BK249.out 4).trans rfl
 have hfs14:=blk_frozen BK249.out 4
 have hns14_0:=NB248_249.out
 have hms14_0:=NB249_248.out
 have hs15:w8.cell? ⟨gb249,5,none⟩=some (.int .i64 0):=(blk_cell BK249.out 5).trans rfl
 have hfs15:=blk_frozen BK249.out 5
 have hns15_0:=NB248_249.out
 have hms15_0:=NB249_248.out
 have hs16:w8.cell? ⟨gb249,6,none⟩=some (.int .i64 0):=(blk_cell BK249.out 6).trans rfl
 have hfs16:=blk_frozen BK249.out 6
 have hns16_0:=NB248_249.out
 have hms16_0:=NB249_248.out
 have hs17:w8.cell? ⟨gb249,7,none⟩=some (.slice none 0 0):=(blk_cell BK249.out 7).trans rfl
 have hfs17:=blk_frozen BK249.out 7
 have hns17_0:=NB248_249.out
 have hms17_0:=NB249_248.out
 refine skip_ (w1:=?_) (by rfl) rfl ?_ ?_
 rotate_left
 ·go_simp
  rfl
 refine hK.out _ _ ⟨((cell_far (p:=⟨gb249,_,none⟩) NB248_249.out _).trans (((cell_far (p:=⟨gb249,_,none⟩) NB248_249.out _).trans (((cell_far (p:=⟨gb249,_,none⟩) NB248_249.out _).trans (((cell_far (p:=⟨gb249,_,none⟩) NB248_249.out _).trans (((cell_far (p:=⟨gb249,_,none⟩) NB248_249.out _).trans (((cell_far (p:=⟨gb249,_,none⟩) NB248_249.out _).trans (((cell_far (p:=⟨gb249,_,none⟩) NB248_249.out _).trans (((cell_far (p:=⟨gb249,_,none⟩) NB248_249.out _).trans (hHeld.1)))))))))))))))),((cell_far (p:=⟨gb249,_,none⟩) NB248_249.out _).trans (((cell_far (p:=⟨gb249,_,none⟩) NB248_249.out _).trans (((cell_far (p:=⟨gb249,_,none⟩) NB248_249.out _).trans (((cell_far (p:=⟨gb249,_,none⟩) NB248_249.out _).trans (((cell_far (p:=⟨gb249,_,none⟩) NB248_249.out _).trans (((cell_far (p:=⟨gb249,_,none⟩) NB248_249.out _).trans (((cell_far (p:=⟨gb249,_,none⟩) NB248_249.out _).trans (((cell_far (p:=⟨gb249,_,none⟩) NB248_249.out _).trans (hHeld.2.1)))))))))))))))),((cell_far (p:=⟨gb249,_,none⟩) NB248_249.out _).trans (((cell_far (p:=⟨gb249,_,none⟩) NB248_249.out _).trans (((cell_far (p:=⟨gb249,_,none⟩) NB248_249.out _).trans (((cell_far (p:=⟨gb249,_,none⟩) NB248_249.out _).trans (((cell_far (p:=⟨gb249,_,none⟩) NB248_249.out _).trans (((cell_far (p:=⟨gb249,_,none⟩) NB248_249.out _).trans (((cell_far (p:=⟨gb249,_,none⟩) NB248_249.out _).trans (((cell_far (p:=⟨gb249,_,none⟩) NB248_249.out _).trans (hHeld.2.2.1)))))))))))))))),((cell_far (p:=⟨gb249,_,none⟩) NB248_249.out _).trans (((cell_far (p:=⟨gb249,_,none⟩) NB248_249.out _).trans (((cell_far (p:=⟨gb249,_,none⟩) NB248_249.out _).trans (((cell_far (p:=⟨gb249,_,none⟩) NB248_249.out _).trans (((cell_far (p:=⟨gb249,_,none⟩) NB248_249.out _).trans (((cell_far (p:=⟨gb249,_,none⟩) NB248_249.out _).trans (((cell_far (p:=⟨gb249,_,none⟩) NB248_249.out _).trans (((cell_far (p:=⟨gb249,_,none⟩) NB248_249.out _).trans (hHeld.2.2.2))))))))))))))))⟩ (fun hHeld=>?_)
 clear hK K
 refine done_ (done_of HT_.out (by kernel_rfl)) ?_
 try go_wp2
 refine bodyPost_ret (results_cell_row rfl _ _ gb249 28 #[.int .i64 3,a2_0,a0,a1,a2_1,a2_2,.int .i64 0,.slice Ao9 t250.length co9] (0,0) _ rfl (by (with_reducible repeat (fail));refine blk_put (cs:=#[.int .i64 3,a2_0,a0,a1,a2_1,a2_2,.int .i64 0,.slice none 0 0]) ?_ 7 _ rfl;(with_reducible repeat (fail));refine blk_put (cs:=#[.int .i64 3,a2_0,a0,a1,a2_1,a2_2,.int .i64 0,.slice none 0 0]) ?_ 6 _ rfl;(with_reducible repeat (fail));refine blk_put (cs:=#[.int .i64 3,a2_0,a0,a1,a2_1,.int .i64 0,.int .i64 0,.slice none 0 0]) ?_ 5 _ rfl;(with_reducible repeat (fail));refine blk_put (cs:=#[.int .i64 3,a2_0,a0,a1,.int .i64 0,.int .i64 0,.int .i64 0,.slice none 0 0]) ?_ 4 _ rfl;(with_reducible repeat (fail));refine blk_put (cs:=#[.int .i64 3,a2_0,a0,.int .i64 0,.int .i64 0,.int .i64 0,.int .i64 0,.slice none 0 0]) ?_ 3 _ rfl;(with_reducible repeat (fail));refine blk_put (cs:=#[.int .i64 3,a2_0,.int .i64 0,.int .i64 0,.int .i64 0,.int .i64 0,.int .i64 0,.slice none 0 0]) ?_ 2 _ rfl;(with_reducible repeat (fail));refine blk_put (cs:=#[.int .i64 3,.int .i64 0,.int .i64 0,.int .i64 0,.int .i64 0,.int .i64 0,.int .i64 0,.slice none 0 0]) ?_ 1 _ rfl;(with_reducible repeat (fail));refine blk_put (cs:=#[.int .i64 0,.int .i64 0,.int .i64 0,.int .i64 0,.int .i64 0,.int .i64 0,.int .i64 0,.slice none 0 0]) ?_ 0 _ rfl;(with_reducible repeat (fail));exact BK249.out) Tryz.underlying28 rfl (by kernel_rfl)) rfl ?_
 exact ⟨_,by rfl,by (with_reducible repeat (fail));exact Kd.R_mono (Kd.R_far (p:=⟨gb249,7,none⟩) (Kd.R_far (p:=⟨gb249,6,none⟩) (Kd.R_far (p:=⟨gb249,5,none⟩) (Kd.R_far (p:=⟨gb249,4,none⟩) (Kd.R_far (p:=⟨gb249,3,none⟩) (Kd.R_far (p:=⟨gb249,2,none⟩) (Kd.R_far (p:=⟨gb249,1,none⟩) (Kd.R_far (p:=⟨gb249,0,none⟩) (Kd.R_types HO252.out BK249.out (by decide)) (fun _ hk=>hk.2) (.int .i64 3)) (fun _ hk=>hk.2) a2_0) (fun _ hk=>hk.2) a0) (fun _ hk=>hk.2) a1) (fun _ hk=>hk.2) a2_1) (fun _ hk=>hk.2) a2_2) (fun _ hk=>hk.2) (.int .i64 0)) (fun _ hk=>hk.2) (.slice Ao9 t250.length co9)) (fun _ hk=>trivial),by repeat ((with_reducible first | exact HB.out | refine below_set ?_ GE249.out))⟩
mutual
def sextonref22_Enough.l0:Nat→List (S63)→Int→Int→Int→Option (Bool)
 | 0,_,_,_,_=>none
 | k+1,x0,x1,x5,x6=>if x6 < (x0.length:Int) then (sextonref22_Enough.l1 k x0 x1 x5 x6 true 0) else ((sextonref22_Majority.f x1).bind fun t253=>(some (decide (x5≥t253))))
def sextonref22_Enough.l1:Nat→List (S63)→Int→Int→Int→Bool→Int→Option (Bool)
 | 0,_,_,_,_,_,_=>none
 | k+1,x0,x1,x5,x6,x7,x8=>if x8 < x6 then (if x7=true then (if 0≤x8 then (if x8 < (x0.length:Int) then (if 0≤x6 then (if x6 < (x0.length:Int) then (sextonref22_Enough.l1 k x0 x1 x5 x6 (((rd_T63 x0 x8).f0) != ((rd_T63 x0 x6).f0)) (wrap64 (x8+1))) else (none)) else (none)) else (none)) else (none)) else (sextonref22_Enough.l1 k x0 x1 x5 x6 false (wrap64 (x8+1)))) else (if x7=true then (sextonref22_Enough.l0 k x0 x1 (wrap64 (x5+1)) (wrap64 (x6+1))) else (sextonref22_Enough.l0 k x0 x1 x5 (wrap64 (x6+1))))
end
def sextonref22_Enough.f (k:Nat) (l0:List (S63)) (a1:Int):Option (Bool):=if a1 < 1 then (some false) else (sextonref22_Enough.l0 k l0 a1 0 0)
theorem sextonref22_Enough.calls (k:Nat) (A0:Option Addr) (c0:Nat) (l0:List (S63)) (a1:Int) (r:Bool) (w:World) (hr0:Kd.C k63 w A0 l0.length l0) (hc0:l0.length≤c0) (h:sextonref22_Enough.f k l0 a1=some r) :
  Calls Tryz.prog 75 #[.slice A0 l0.length c0,a1] w fun e w'=>e=.returned r∧Drawn0 w w':=by
 have HR0:=sd hr0
 have HC0:=sd hc0
 clear hr0 hc0
 have H:(if a1 < 1 then (some false) else (sextonref22_Enough.l0 k l0 a1 0 0))=some r:=h
 clear h
 by_cases c3:a1 < 1
 ·rw [if_pos c3] at H
  have c3b0:decide (a1 < 1)=true:=decide_eq_true c3
  clear c3
  obtain rfl:=Option.some.inj H
  go_enter Tryz.func75,Tryz.ntmps75
  go_wp2
  repeat (go_quiet (fail);try go_wp2)
  go_ret
  exact ⟨by rfl,by repeat ((exact Drawn0.refl _))⟩
 ·rw [if_neg c3] at H
  have c3b0:decide (a1 < 1)=false:=decide_eq_false c3
  clear c3
  have H':=sd H
  clear H
  go_enter Tryz.func75,Tryz.ntmps75
  go_wp2
  repeat (go_quiet (fail);try go_wp2)
  go_loopg [5,6] k (fun kq v5 v6 w'=>∃ (x5_1:Int) (x6_1:Int),v5=.int .i64 x5_1∧v6=.int .i64 x6_1∧Aside0 (sextonref22_Enough.l0 kq l0 a1 x5_1 x6_1=some r)∧Aside0 (kq≤k)∧Drawn0 w w')
  case atStart=>exact ⟨(0),(0),(by rfl),(by rfl),H',⟨Nat.le_refl _⟩,by repeat ((exact Drawn0.refl _))⟩
  case round =>
   clear H'
   try clear c3b0
   obtain ⟨x5_1,x6_1,rfl,rfl,HA,HK1,⟨m1,rfl⟩⟩:=hrel
   cases gk with
   | zero=>exact absurd HA.out (by simp [sextonref22_Enough.l0])
   | succ k1 =>
    have H:=HA.out
    clear HA
    simp only [sextonref22_Enough.l0] at H
    by_cases c4:x6_1 < (l0.length:Int)
    ·rw [if_pos c4] at H
     have c4b0:decide (x6_1 < (l0.length:Int))=true:=decide_eq_true c4
     clear c4
     have H':=sd H
     clear H
     go_wp2
     repeat (go_quiet (fail);try go_wp2)
     go_loopg [7,8] k1 (fun kq v7 v8 w'=>∃ (x7_2:Bool) (x8_2:Int),v7=.bool x7_2∧v8=.int .i64 x8_2∧Aside0 (sextonref22_Enough.l1 kq l0 a1 x5_1 x6_1 x7_2 x8_2=some r)∧Aside0 (kq≤k1)∧Drawn0 w w')
     case atStart=>exact ⟨(true),(0),(by rfl),(by rfl),H',⟨Nat.le_refl _⟩,by repeat (first | exact Drawn0.refl _ | apply Drawn0.step)⟩
     case round =>
      clear H'
      try clear c4b0
      obtain ⟨x7_2,x8_2,rfl,rfl,HA,HK2,⟨m2,rfl⟩⟩:=hrel
      cases gk with
      | zero=>exact absurd HA.out (by simp [sextonref22_Enough.l1])
      | succ k2 =>
       have H:=HA.out
       clear HA
       simp only [sextonref22_Enough.l1] at H
       by_cases c5:x8_2 < x6_1
       ·rw [if_pos c5] at H
        have c5b0:decide (x8_2 < x6_1)=true:=decide_eq_true c5
        clear c5
        by_cases c6:x7_2=true
        ·subst c6
         rw [if_pos rfl] at H
         by_cases c7:0≤x8_2
         ·rw [if_pos c7] at H
          have c7b0:decide (0≤x8_2)=true:=decide_eq_true c7
          clear c7
          by_cases c8:x8_2 < (l0.length:Int)
          ·rw [if_pos c8] at H
           have c8b0:decide (x8_2 < (l0.length:Int))=true:=decide_eq_true c8
           clear c8
           by_cases c9:0≤x6_1
           ·rw [if_pos c9] at H
            have c9b0:decide (0≤x6_1)=true:=decide_eq_true c9
            clear c9
            by_cases c10:x6_1 < (l0.length:Int)
            ·rw [if_pos c10] at H
             have c10b0:decide (x6_1 < (l0.length:Int))=true:=decide_eq_true c10
             clear c10
             have H':=sd H
             clear H
             have p254:0≤(x8_2:Int):=of_decide_eq_true (by (with_reducible assumption))
             have q254:x8_2 < (l0.length:Int):=of_decide_eq_true (by (with_reducible assumption))
             obtain ⟨ad254,A254_3,c254_3,e254,hx254_0,hx254_1,hx254_2,hx254_3,hl254_3,hi254_3⟩:=at_T63 HR0.out x8_2 p254 q254
             cases e254
             have HR254_3:=sd hi254_3
             have HC254_3:=sd hl254_3
             clear hi254_3 hl254_3
             replace p254:=eq_true p254
             replace q254:=eq_true q254
             have p255:0≤(x6_1:Int):=of_decide_eq_true (by (with_reducible assumption))
             have q255:x6_1 < (l0.length:Int):=of_decide_eq_true (by (with_reducible assumption))
             obtain ⟨ad255,A255_3,c255_3,e255,hx255_0,hx255_1,hx255_2,hx255_3,hl255_3,hi255_3⟩:=at_T63 HR0.out x6_1 p255 q255
             obtain rfl:ad254=ad255:=(by injection e255)
             have HR255_3:=sd hi255_3
             have HC255_3:=sd hl255_3
             clear hi255_3 hl255_3
             replace p255:=eq_true p255
             replace q255:=eq_true q255
             go_wp2
             repeat (go_quiet (fail);try go_wp2)
             go_roundg k2
             case measure=>have:=HK1.out;have:=HK2.out;omega
             case rel=>exact ⟨((((rd_T63 l0 x8_2).f0) != ((rd_T63 l0 x6_1).f0))),(wrap64 (x8_2+1)),(by rfl),(by rfl),H',⟨by have:=HK1.out;have:=HK2.out;omega⟩,by repeat (first | exact Drawn0.refl _ | apply Drawn0.step)⟩
            ·rw [if_neg c10] at H
             exact absurd H (by simp)
           ·rw [if_neg c9] at H
            exact absurd H (by simp)
          ·rw [if_neg c8] at H
           exact absurd H (by simp)
         ·rw [if_neg c7] at H
          exact absurd H (by simp)
        ·replace c6:=Bool.eq_false_iff.mpr c6
         subst c6
         rw [if_neg (show ¬ (false=true) by decide)] at H
         have H':=sd H
         clear H
         go_wp2
         repeat (go_quiet (fail);try go_wp2)
         go_roundg k2
         case measure=>have:=HK1.out;have:=HK2.out;omega
         case rel=>exact ⟨(false),(wrap64 (x8_2+1)),(by rfl),(by rfl),H',⟨by have:=HK1.out;have:=HK2.out;omega⟩,by repeat (first | exact Drawn0.refl _ | apply Drawn0.step)⟩
       ·rw [if_neg c5] at H
        have c5b0:decide (x8_2 < x6_1)=false:=decide_eq_false c5
        clear c5
        by_cases c11:x7_2=true
        ·subst c11
         rw [if_pos rfl] at H
         have H':=sd H
         clear H
         go_wp2
         repeat (go_quiet (fail);try go_wp2)
         go_roundg k2
         case measure=>have:=HK1.out;have:=HK2.out;omega
         case rel=>exact ⟨(wrap64 (x5_1+1)),(wrap64 (x6_1+1)),(by rfl),(by rfl),H',⟨by have:=HK1.out;have:=HK2.out;omega⟩,by repeat (first | exact Drawn0.refl _ | apply Drawn0.step)⟩
        ·replace c11:=Bool.eq_false_iff.mpr c11
         subst c11
         rw [if_neg (show ¬ (false=true) by decide)] at H
         have H':=sd H
         clear H
         go_wp2
         repeat (go_quiet (fail);try go_wp2)
         go_roundg k2
         case measure=>have:=HK1.out;have:=HK2.out;omega
         case rel=>exact ⟨(x5_1),(wrap64 (x6_1+1)),(by rfl),(by rfl),H',⟨by have:=HK1.out;have:=HK2.out;omega⟩,by repeat (first | exact Drawn0.refl _ | apply Drawn0.step)⟩
    ·rw [if_neg c4] at H
     have c4b0:decide (x6_1 < (l0.length:Int))=false:=decide_eq_false c4
     clear c4
     replace H:=Option.bind_eq_some_iff.mp H
     obtain ⟨t253,A120,H⟩:=H
     replace H:(some (decide (x5_1≥t253)))=some r:=H
     have A12:=sd A120
     clear A120
     obtain rfl:=Option.some.inj H
     go_wp2_with ((go_at_call 90;(with_reducible refine (sextonref22_Majority.calls a1 t253 _ A12.out).mono ?_);rintro e w' ⟨rfl,⟨nd,rfl⟩⟩;(try (exact ⟨rfl,_,World.drewN_drewN _ _ _⟩))))
     repeat (go_quiet (fail);try go_wp2_with (fail))
     go_ret
     exact ⟨by rfl,by repeat (first | exact Drawn0.refl _ | apply Drawn0.step)⟩
def sextonref23_in.f (a0:Int) (a1:Int):Option (Bool):=if a0≥0 then (some (decide (a0≤a1))) else (some false)
theorem sextonref23_in.calls (a0:Int) (a1:Int) (r:Bool) (w:World) (h:sextonref23_in.f a0 a1=some r) :
  Calls Tryz.prog 81 #[a0,a1] w fun e w'=>e=.returned r∧Drawn0 w w':=by
 have H:(if a0≥0 then (some (decide (a0≤a1))) else (some false))=some r:=h
 clear h
 by_cases c3:a0≥0
 ·rw [if_pos c3] at H
  have c3b0:decide (0≤a0)=true:=decide_eq_true c3
  clear c3
  obtain rfl:=Option.some.inj H
  go_enter Tryz.func81,Tryz.ntmps81
  go_wp2
  go_ret
  exact ⟨by rfl,by repeat ((exact Drawn0.refl _))⟩
 ·rw [if_neg c3] at H
  have c3b0:decide (0≤a0)=false:=decide_eq_false c3
  clear c3
  obtain rfl:=Option.some.inj H
  go_enter Tryz.func81,Tryz.ntmps81
  go_wp2
  go_ret
  exact ⟨by rfl,by repeat ((exact Drawn0.refl _))⟩
def sextonref23_Ack.f (a0:Int) (a1:Int) (a2:Int) (a3:Int):Option (Int×Int×Int×Int×Int×Int×Int×List ByteArray):=some (2,a0,a1,a2,0,0,a3,([]:List ByteArray))
theorem sextonref23_Ack.calls (a0:Int) (a1:Int) (a2:Int) (a3:Int) (r1:Int) (r2:Int) (r3:Int) (r4:Int) (r5:Int) (r6:Int) (r7:Int) (r8:List ByteArray) (w:World) (h:sextonref23_Ack.f a0 a1 a2 a3=some (r1,r2,r3,r4,r5,r6,r7,r8)) :
  Calls Tryz.prog 82 #[a0,a1,a2,a3] w fun e w'=>∃ v7_:Value,e=.returned (.agg #[r1,r2,r3,r4,r5,r6,r7,v7_])∧Kd.R Kd.string 9 w' w.heap.size (fun _=>True) v7_ r8∧Below w.heap.size w w':=by
 have hu28:=Tryz.underlying28
 have HB:=sd (Below.refl w.heap.size w)
 have H:(some (2,a0,a1,a2,0,0,a3,([]:List ByteArray)))=some (r1,r2,r3,r4,r5,r6,r7,r8):=h
 clear h
 simp only [Option.some.injEq,Prod.mk.injEq] at H
 obtain ⟨rfl,rfl,rfl,rfl,rfl,rfl,rfl,rfl⟩:=H
 go_enter Tryz.func82,Tryz.ntmps82
 go_wp2_with (((with_reducible refine gate_dst (N:=8) rfl ?_);refine box_event ?hg (N:=8) ?hd (cs:=#[.int .i64 0,.int .i64 0,.int .i64 0,.int .i64 0,.int .i64 0,.int .i64 0,.int .i64 0,.slice none 0 0]) (t:=28) ?hr ?_;(case hd=>rfl);(case hg=>rfl);(case hr=>(go_simp;done));intro gb461 hg w5 hbox hb;have BK461:=sd (hbox);have GW461:=sd ((by rw [hg];exact (below_size HB.out):w.heap.size≤gb461));have GE461:=sd ((by rw [hg];exact (below_size HB.out):w.heap.size≤gb461));replace HB:=sd (below_step HB.out hb);clear hb hbox hg;obtain ⟨hcz6_0,hcz6_1,hcz6_2,hcz6_3,hcz6_4,hcz6_5,hcz6_6,hcz6_7⟩:=cells8 BK461.out;have hfz6:=fr_of BK461.out))
 refine bodyPost_ret (results_cell_row rfl _ _ gb461 28 #[.int .i64 2,a0,a1,a2,.int .i64 0,.int .i64 0,a3,.slice none 0 0] (0,0) _ rfl (by (with_reducible repeat (fail));refine blk_put (cs:=#[.int .i64 2,a0,a1,a2,.int .i64 0,.int .i64 0,a3,.slice none 0 0]) ?_ 7 _ rfl;(with_reducible repeat (fail));refine blk_put (cs:=#[.int .i64 2,a0,a1,a2,.int .i64 0,.int .i64 0,.int .i64 0,.slice none 0 0]) ?_ 6 _ rfl;(with_reducible repeat (fail));refine blk_put (cs:=#[.int .i64 2,a0,a1,a2,.int .i64 0,.int .i64 0,.int .i64 0,.slice none 0 0]) ?_ 5 _ rfl;(with_reducible repeat (fail));refine blk_put (cs:=#[.int .i64 2,a0,a1,a2,.int .i64 0,.int .i64 0,.int .i64 0,.slice none 0 0]) ?_ 4 _ rfl;(with_reducible repeat (fail));refine blk_put (cs:=#[.int .i64 2,a0,a1,.int .i64 0,.int .i64 0,.int .i64 0,.int .i64 0,.slice none 0 0]) ?_ 3 _ rfl;(with_reducible repeat (fail));refine blk_put (cs:=#[.int .i64 2,a0,.int .i64 0,.int .i64 0,.int .i64 0,.int .i64 0,.int .i64 0,.slice none 0 0]) ?_ 2 _ rfl;(with_reducible repeat (fail));refine blk_put (cs:=#[.int .i64 2,.int .i64 0,.int .i64 0,.int .i64 0,.int .i64 0,.int .i64 0,.int .i64 0,.slice none 0 0]) ?_ 1 _ rfl;(with_reducible repeat (fail));refine blk_put (cs:=#[.int .i64 0,.int .i64 0,.int .i64 0,.int .i64 0,.int .i64 0,.int .i64 0,.int .i64 0,.slice none 0 0]) ?_ 0 _ rfl;(with_reducible repeat (fail));exact BK461.out) Tryz.underlying28 rfl (by kernel_rfl)) rfl ?_
 exact ⟨_,by rfl,by (exact Kd.R_nil _ _ _ _ _),by repeat ((with_reducible first | exact HB.out | refine below_set ?_ GE461.out))⟩
end
end Go.Proofs.YtfpfpckocemmdaaGreat.P
