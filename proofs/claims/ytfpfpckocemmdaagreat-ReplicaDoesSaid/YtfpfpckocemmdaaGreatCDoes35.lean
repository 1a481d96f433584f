/- Part 35 of the walk. -/
import Derived.Test.YtfpfpckocemmdaaGreatCDoes34
set_option linter.unusedVariables false
set_option linter.unusedSimpArgs false
set_option maxHeartbeats 8000000
set_option maxRecDepth 100000
namespace Go.Proofs.YtfpfpckocemmdaaGreat.P
open Go.RowKit Go.Proofs.YtfpfpckocemmdaaGreatW.PrintWords Go.Proofs.YtfpfpckocemmdaaGreatW.PrintLast Go.Proofs.YtfpfpckocemmdaaGreatW.PrintMore
section
attribute [local go_sem] max2_int min2_int max_two min_two max_three min_three max_four min_four   -- for this text's walks alone
def sextonref01_Own.f (l0:List ByteArray):Option (List ByteArray):=if ([]:List ByteArray).length+l0.length < 8796093022208 then (some (([]:List ByteArray)++l0)) else (none)
theorem sextonref01_Own.calls (A0:Option Addr) (c0:Nat) (l0:List ByteArray) (r:List ByteArray) (w:World) (hr0:Kd.C Kd.string w A0 l0.length l0) (hc0:l0.length≤c0) (h:sextonref01_Own.f l0=some r) :
  Calls Tryz.prog 24 #[.slice A0 l0.length c0] w fun e w'=>∃ v0_:Value,e=.returned (v0_)∧Kd.R Kd.string 9 w' w.heap.size (fun _=>True) v0_ r∧Below w.heap.size w w':=by
 have HR0:=sd hr0
 have HC0:=sd hc0
 clear hr0 hc0
 have HB:=sd (Below.refl w.heap.size w)
 have H:(if ([]:List ByteArray).length+l0.length < 8796093022208 then (some (([]:List ByteArray)++l0)) else (none))=some r:=h
 clear h
 by_cases c2:([]:List ByteArray).length+l0.length < 8796093022208
 ·rw [if_pos c2] at H
  have LMc2:=sd c2
  clear c2
  obtain ⟨y117,hy117⟩:∃ y_:List ByteArray,y_=(([]:List ByteArray)++l0):=⟨_,rfl⟩
  replace H:(some y117)=some r:=by (rw [hy117];with_reducible exact H)
  have Ny117:=sd hy117
  clear hy117
  obtain rfl:=Option.some.inj H
  go_enter Tryz.func24,Tryz.ntmps24
  go_wp2_with (((with_reducible refine gate_builtin (b:=.append) (xs:=#[.tmp 4,.tmp 5]) rfl ?_);at_builtin;refine Kd.R_append_rows Kd.string (w0:=w) w.heap.size rfl (.tmp 4) (.tmp 5) 22 9 (.string ⟨#[]⟩) 16 rfl Tryz.underlying22 info9 rfl (by decide) (by omega) (.slice none 0 0) ([]:List ByteArray) l0 _ _ _ (fun _=>True) (fun _=>False) rfl rfl ?aO ?aR (fun _ _ h=>h) (fun _ h=>h.elim) ?aF ?aB ?aS ?aL ?_;(case aR=>(try change Kd.C Kd.string _ _ _ _);exact HR0.out);(case aB=>exact HB.out);(case aF=>exact (fun _ _=>trivial));(case aO=>exact ((Kd.R_nil _ _ _ _ (fun _=>True))));(case aS=>exact (below_size HB.out));(case aL=>have:=LMc2.out;omega);intro v118 w3 ho hb hg hat;rw [← Ny117.out] at ho;replace HB:=sd (hb);have HO119:=sd (ho);clear ho hb hg hat))
  go_ret
  exact ⟨_,by rfl,by (with_reducible repeat (fail));exact HO119.out,HB.out⟩
 ·rw [if_neg c2] at H
  exact absurd H (by simp)
def sextonref22_OwnVote.f (a0_0:Int) (a0_1:Int) (a0_2:Int) (l0_3:List ByteArray):Option (Int×Int×Int×List ByteArray):=(sextonref01_Own.f l0_3).bind fun t122=>(some (a0_0,a0_1,a0_2,t122))
def sextonref22_OwnVote.T1:Bool×List (List Nat×List Nat):=(true,[([],[]),([0],[0]),([],[]),([2],[2]),([],[]),([4],[4]),([],[]),([6],[6]),([7],[7]),([1,3,5,8],[1,3,5,8]),([9,8,0,1,2,3,4,5,6,7,8,9],[9])])
def sextonref22_OwnVote.B1:List Nat:=[0,1,0,4,0,16,0,64,192,511,1023]
theorem sextonref22_OwnVote.tab1:rtab .any (opsOf Tryz.f65 1)=sextonref22_OwnVote.T1:=by kernel_rfl
theorem sextonref22_OwnVote.bits1:waitsOk sextonref22_OwnVote.T1.2 sextonref22_OwnVote.B1=true:=by kernel_rfl
theorem sextonref22_OwnVote.calls (a0_0:Int) (a0_1:Int) (a0_2:Int) (A0_3:Option Addr) (c0_3:Nat) (l0_3:List ByteArray) (r1:Int) (r2:Int) (r3:Int) (r4:List ByteArray) (w:World) (hr0_3:Kd.C Kd.string w A0_3 l0_3.length l0_3) (hc0_3:l0_3.length≤c0_3) (h:sextonref22_OwnVote.f a0_0 a0_1 a0_2 l0_3=some (r1,r2,r3,r4)) :
  Calls Tryz.prog 65 #[.agg #[a0_0,a0_1,a0_2,.slice A0_3 l0_3.length c0_3]] w fun e w'=>∃ v3_:Value,e=.returned (.agg #[r1,r2,r3,v3_])∧Kd.R Kd.string 9 w' w.heap.size (fun _=>True) v3_ r4∧Below w.heap.size w w':=by
 have hu63:=Tryz.underlying63
 have HR0_3:=sd hr0_3
 have HC0_3:=sd hc0_3
 clear hr0_3 hc0_3
 have HB:=sd (Below.refl w.heap.size w)
 have H:((sextonref01_Own.f l0_3).bind fun t122=>(some (a0_0,a0_1,a0_2,t122)))=some (r1,r2,r3,r4):=h
 clear h
 replace H:=Option.bind_eq_some_iff.mp H
 obtain ⟨t122,A20,H⟩:=H
 replace H:(some (a0_0,a0_1,a0_2,t122))=some (r1,r2,r3,r4):=H
 have A2:=sd A20
 clear A20
 simp only [Option.some.injEq,Prod.mk.injEq] at H
 obtain ⟨rfl,rfl,rfl,rfl⟩:=H
 go_enter Tryz.func65,Tryz.ntmps65
 try go_wp2_with (first | ((with_reducible refine gate_dst (N:=1) rfl ?_);refine box_event ?hg (N:=1) ?hd (cs:=#[a0_0,a0_1,a0_2,.slice A0_3 l0_3.length c0_3]) (t:=63) ?hr ?_;(case hd=>rfl);(case hg=>rfl);(case hr=>(go_simp;done));intro gb120 hg w3 hbox hb;have BK120:=sd (hbox);have GW120:=sd ((by rw [hg];exact (below_size HB.out):w.heap.size≤gb120));have GE120:=sd ((by rw [hg];exact (below_size HB.out):w.heap.size≤gb120));replace HB:=sd (below_step HB.out hb);clear hb hbox hg) | ((with_reducible refine gate_dst (N:=2) rfl ?_);refine box_event ?hg (N:=2) ?hd (cs:=#[.int .i64 0,.int .i64 0,.int .i64 0,.slice none 0 0]) (t:=63) ?hr ?_;(case hd=>rfl);(case hg=>rfl);(case hr=>(go_simp;done));intro gb121 hg w4 hbox hb;have BK121:=sd (hbox);have GW121:=sd ((by rw [hg];exact (below_size HB.out):w.heap.size≤gb121));have GE121:=sd ((by rw [hg];exact (below_size HB.out):w.heap.size≤gb121));replace HB:=sd (below_step HB.out hb);have NB120_121:=sd ((by rw [hg];exact Nat.ne_of_lt (blk_lt BK120.out):gb120≠gb121));have NB121_120:=sd ((by rw [hg];exact Nat.ne_of_gt (blk_lt BK120.out):gb121≠gb120));replace BK120:=sd (blk_below BK120.out hb);clear hb hbox hg))
 replace BK120:=sd (blk_drew BK120.out)
 replace BK121:=sd (blk_drew BK121.out)
 replace HB:=sd (below_drew1 HB.out)
 refine start_ (n:=11) (S:=fun w'=>w'.cell? ⟨gb120,0,none⟩=some (.int .i64 a0_0)∧w'.cell? ⟨gb120,1,none⟩=some (.int .i64 a0_1)∧w'.cell? ⟨gb120,2,none⟩=some (.int .i64 a0_2)∧w'.cell? ⟨gb120,3,none⟩=some (.slice A0_3 l0_3.length c0_3)) (ds:=[]) #[false,false,false,false,false,false,false,false,false,false,false] (by kernel_rfl) rfl rfl ⟨(blk_cell BK120.out 0).trans rfl,(blk_cell BK120.out 1).trans rfl,(blk_cell BK120.out 2).trans rfl,(blk_cell BK120.out 3).trans rfl⟩ (fun hHeld=>?_);refine with_tabW sextonref22_OwnVote.tab1 sextonref22_OwnVote.bits1 (fun HT_ HW_=>?_)
 generalize w4.drew=w5 at BK120 BK121 HB hHeld ⊢
 refine pure_ (i:=0) (N:=some 3) (v:=?_) (a':=?_) #[true,false,false,false,false,false,false,false,false,false,false] rfl rfl (any_of HT_.out (by kernel_rfl)) (fun _ _ _ h=>h) (Or.inl ⟨by rfl,?_⟩) ?_ ?_
 rotate_left
 ·intro w'
  go_simp
  with_reducible rfl
 rotate_left
 ·simp only [Act.put,List.setIfInBounds_toArray,List.set_cons_zero,List.set_cons_succ,i64_w,i32_w]
  rfl
 refine pure_ (i:=2) (N:=some 5) (v:=?_) (a':=?_) #[true,false,true,false,false,false,false,false,false,false,false] rfl rfl (any_of HT_.out (by kernel_rfl)) (fun _ _ _ h=>h) (Or.inl ⟨by rfl,?_⟩) ?_ ?_
 rotate_left
 ·intro w'
  go_simp
  with_reducible rfl
 rotate_left
 ·simp only [Act.put,List.setIfInBounds_toArray,List.set_cons_zero,List.set_cons_succ,i64_w,i32_w]
  rfl
 refine pure_ (i:=4) (N:=some 7) (v:=?_) (a':=?_) #[true,false,true,false,true,false,false,false,false,false,false] rfl rfl (any_of HT_.out (by kernel_rfl)) (fun _ _ _ h=>h) (Or.inl ⟨by rfl,?_⟩) ?_ ?_
 rotate_left
 ·intro w'
  go_simp
  with_reducible rfl
 rotate_left
 ·simp only [Act.put,List.setIfInBounds_toArray,List.set_cons_zero,List.set_cons_succ,i64_w,i32_w]
  rfl
 refine pure_ (i:=6) (N:=some 9) (v:=?_) (a':=?_) #[true,false,true,false,true,false,true,false,false,false,false] rfl rfl (any_of HT_.out (by kernel_rfl)) (fun _ _ _ h=>h) (Or.inl ⟨by rfl,?_⟩) ?_ ?_
 rotate_left
 ·intro w'
  go_simp
  with_reducible rfl
 rotate_left
 ·simp only [Act.put,List.setIfInBounds_toArray,List.set_cons_zero,List.set_cons_succ,i64_w,i32_w]
  rfl
 refine take_ (i:=1) (N:=some 4) (v:=?_) (a':=?_) #[true,true,true,false,true,false,true,false,false,false,false] rfl rfl (take_ofW HT_.out HW_.out (by kernel_rfl)) (fun _ _ _ h=>h) (Or.inl ⟨by rfl,?_⟩) hHeld ?_ ?_
 rotate_left
 ·rintro w' ⟨s0,s1,s2,s3⟩
  go_simp
  with_reducible rfl
 rotate_left
 ·simp only [Act.put,List.setIfInBounds_toArray,List.set_cons_zero,List.set_cons_succ,i64_w,i32_w]
  rfl
 refine take_ (i:=3) (N:=some 6) (v:=?_) (a':=?_) #[true,true,true,true,true,false,true,false,false,false,false] rfl rfl (take_ofW HT_.out HW_.out (by kernel_rfl)) (fun _ _ _ h=>h) (Or.inl ⟨by rfl,?_⟩) hHeld ?_ ?_
 rotate_left
 ·rintro w' ⟨s0,s1,s2,s3⟩
  go_simp
  with_reducible rfl
 rotate_left
 ·simp only [Act.put,List.setIfInBounds_toArray,List.set_cons_zero,List.set_cons_succ,i64_w,i32_w]
  rfl
 refine take_ (i:=5) (N:=some 8) (v:=?_) (a':=?_) #[true,true,true,true,true,true,true,false,false,false,false] rfl rfl (take_ofW HT_.out HW_.out (by kernel_rfl)) (fun _ _ _ h=>h) (Or.inl ⟨by rfl,?_⟩) hHeld ?_ ?_
 rotate_left
 ·rintro w' ⟨s0,s1,s2,s3⟩
  go_simp
  with_reducible rfl
 rotate_left
 ·simp only [Act.put,List.setIfInBounds_toArray,List.set_cons_zero,List.set_cons_succ,i64_w,i32_w]
  rfl
 refine take_ (i:=7) (N:=some 10) (v:=?_) (a':=?_) #[true,true,true,true,true,true,true,true,false,false,false] rfl rfl (take_ofW HT_.out HW_.out (by kernel_rfl)) (fun _ _ _ h=>h) (Or.inl ⟨by rfl,?_⟩) hHeld ?_ ?_
 rotate_left
 ·rintro w' ⟨s0,s1,s2,s3⟩
  go_simp
  with_reducible rfl
 rotate_left
 ·simp only [Act.put,List.setIfInBounds_toArray,List.set_cons_zero,List.set_cons_succ,i64_w,i32_w]
  rfl
 refine one_ (i:=8) (N:=some 11) #[true,true,true,true,true,true,true,true,true,false,false] rfl rfl (one_of HT_.out (by kernel_rfl)) (by decide) (fun K hK=>?_)
 refine goes_ Tryz.func24 (by kernel_rfl) rfl #[.slice A0_3 l0_3.length c0_3] (by rfl) rfl rfl (by (try simp only [List.map_toArray,List.map_cons,List.map_nil]);rfl) ?_
 with_reducible refine (sextonref01_Own.calls _ _ l0_3 t122 _ ?side1 ?side2 A2.out).mono ?_
 (case side1=>exact (Kd.C_below HR0_3.out HB.out))
 (case side2=>exact HC0_3.out)
 rintro e w6 ⟨v123,rfl,ho0,hb⟩
 refine ⟨_,rfl,?_⟩
 have HO124:=sd (Kd.R_lower ho0 (below_size HB.out))
 replace BK120:=sd (blk_below BK120.out hb)
 replace BK121:=sd (blk_below BK121.out hb)
 replace HB:=sd (below_step HB.out hb)
 (try clear hb)
 skip
 skip
 skip
 (try clear ho0)
 obtain ⟨Ao7,co7,eo7⟩:=Kd.R_slice HO124.out
 ((subst eo7))
 refine hK.out _ _ ⟨(blk_cell BK120.out 0).trans rfl,(blk_cell BK120.out 1).trans rfl,(blk_cell BK120.out 2).trans rfl,(blk_cell BK120.out 3).trans rfl⟩ (fun hHeld=>?_)
 clear hK K
 refine norm_ (a':=?_) ?_ ?_
 rotate_left
 ·show Act.put _ (some 11) _=_
  simp only [Act.put,List.setIfInBounds_toArray,List.set_cons_zero,List.set_cons_succ,i64_w,i32_w]
  rfl
 refine pure_ (i:=9) (N:=some 12) (v:=?_) (a':=?_) #[true,true,true,true,true,true,true,true,true,true,false] rfl rfl (any_of HT_.out (by kernel_rfl)) (fun _ _ _ h=>h) (Or.inl ⟨by rfl,?_⟩) ?_ ?_
 rotate_left
 ·intro w'
  go_simp
  with_reducible rfl
 rotate_left
 ·simp only [Act.put,List.setIfInBounds_toArray,List.set_cons_zero,List.set_cons_succ,i64_w,i32_w]
  rfl
 refine one_ (i:=10) (N:=none) #[true,true,true,true,true,true,true,true,true,true,true] rfl rfl (one_of HT_.out (by kernel_rfl)) (by decide) (fun K hK=>?_)
 have hs8:w6.cell? ⟨gb121,0,none⟩=some (.int .i64 0):=(blk_cell BK121.out 0).trans rfl
 have hfs8:=blk_frozen BK121.out 0
 have hns8_0:=NB120_121.out
 have hms8_0:=NB121_120.out
 have hs9:w6.cell? ⟨gb121,1,none⟩=some (.int .i64 0):=(blk_cell BK121.out 1).trans rfl
 have hfs9:=blk_frozen BK121.out 1
 have hns9_0:=NB120_121.out
 have hms9_0:=NB121_120.out
 have hs10:w6.cell? ⟨gb121,2,none⟩=some (.int .i64 0):=(blk_cell BK121.out 2).trans rfl
 have hfs10:=blk_frozen BK121.out 2
 have hns10_0:=NB120_121.out
 have hms10_0:=NB121_120.out
 have hs11:w6.cell? ⟨gb121,3,none⟩=some (.slice none 0 0):=(blk_cell BK121.out 3).trans rfl
 have hfs11:=blk_frozen BK121.out 3
 have hns11_0:=NB120_121.out
 have hms11_0:=NB121_120.out
 refine skip_ (w1:=?_) (by rfl) rfl ?_ ?_
 rotate_left
 ·go_simp
  rfl
 refine hK.out _ _ ⟨((cell_far (p:=⟨gb121,_,none⟩) NB120_121.out _).trans (((cell_far (p:=⟨gb121,_,none⟩) NB120_121.out _).trans (((cell_far (p:=⟨gb121,_,none⟩) NB120_121.out _).trans (((cell_far (p:=⟨gb121,_,none⟩) NB120_121.out _).trans (hHeld.1)))))))),((cell_far (p:=⟨gb121,_,none⟩) NB120_121.out _).trans (((cell_far (p:=⟨gb121,_,none⟩) NB120_121.out _).trans (((cell_far (p:=⟨gb121,_,none⟩) NB120_121.out _).trans (((cell_far (p:=⟨gb121,_,none⟩) NB120_121.out _).trans (hHeld.2.1)))))))),((cell_far (p:=⟨gb121,_,none⟩) NB120_121.out _).trans (((cell_far (p:=⟨gb121,_,none⟩) NB120_121.out _).trans (((cell_far (p:=⟨gb121,_,none⟩) NB120_121.out _).trans (((cell_far (p:=⟨gb121,_,none⟩) NB120_121.out _).trans (hHeld.2.2.1)))))))),((cell_far (p:=⟨gb121,_,none⟩) NB120_121.out _).trans (((cell_far (p:=⟨gb121,_,none⟩) NB120_121.out _).trans (((cell_far (p:=⟨gb121,_,none⟩) NB120_121.out _).trans (((cell_far (p:=⟨gb121,_,none⟩) NB120_121.out _).trans (hHeld.2.2.2))))))))⟩ (fun hHeld=>?_)
 clear hK K
 refine done_ (done_of HT_.out (by kernel_rfl)) ?_
 try go_wp2
 refine bodyPost_ret (results_cell_row rfl _ _ gb121 63 #[a0_0,a0_1,a0_2,.slice Ao7 t122.length co7] (0,0) _ rfl (by (with_reducible repeat (fail));refine blk_put (cs:=#[a0_0,a0_1,a0_2,.slice none 0 0]) ?_ 3 _ rfl;(with_reducible repeat (fail));refine blk_put (cs:=#[a0_0,a0_1,.int .i64 0,.slice none 0 0]) ?_ 2 _ rfl;(with_reducible repeat (fail));refine blk_put (cs:=#[a0_0,.int .i64 0,.int .i64 0,.slice none 0 0]) ?_ 1 _ rfl;(with_reducible repeat (fail));refine blk_put (cs:=#[.int .i64 0,.int .i64 0,.int .i64 0,.slice none 0 0]) ?_ 0 _ rfl;(with_reducible repeat (fail));exact BK121.out) Tryz.underlying63 rfl (by kernel_rfl)) rfl ?_
 exact ⟨_,by rfl,by (with_reducible repeat (fail));exact Kd.R_mono (Kd.R_far (p:=⟨gb121,3,none⟩) (Kd.R_far (p:=⟨gb121,2,none⟩) (Kd.R_far (p:=⟨gb121,1,none⟩) (Kd.R_far (p:=⟨gb121,0,none⟩) (Kd.R_types HO124.out BK121.out (by decide)) (fun _ hk=>hk.2) a0_0) (fun _ hk=>hk.2) a0_1) (fun _ hk=>hk.2) a0_2) (fun _ hk=>hk.2) (.slice Ao7 t122.length co7)) (fun _ hk=>trivial),by repeat ((with_reducible first | exact HB.out | refine below_set ?_ GE121.out))⟩
def sextonref22_Own.l0:Nat→List (S63)→List (S63)→Int→Option ((List (S63)))
 | 0,_,_,_=>none
 | k+1,x0,x3,x4=>if x4 < (x0.length:Int) then (if 0≤x4 then ((sextonref22_OwnVote.f ((rd_T63 x0 x4).f0) ((rd_T63 x0 x4).f1) ((rd_T63 x0 x4).f2) ((rd_T63 x0 x4).f3)).bind fun bt126=>(if x3.length < 2932031007402 then (sextonref22_Own.l0 k x0 (x3++[(⟨bt126.1,bt126.2.1,bt126.2.2.1,bt126.2.2.2⟩:S63)]) (wrap64 (x4+1))) else (none))) else (none)) else (some x3)
def sextonref22_Own.f (k:Nat) (l0:List (S63)):Option ((List (S63))):=sextonref22_Own.l0 k l0 ([]:List (S63)) 0
theorem sextonref22_Own.calls (k:Nat) (A0:Option Addr) (c0:Nat) (l0:List (S63)) (r:List (S63)) (w:World) (hr0:Kd.C k63 w A0 l0.length l0) (hc0:l0.length≤c0) (h:sextonref22_Own.f k l0=some r) :
  Calls Tryz.prog 25 #[.slice A0 l0.length c0] w fun e w'=>∃ v0_:Value,e=.returned (v0_)∧Kd.S k63 63 w' w.heap.size (fun _=>True) v0_ r∧Below w.heap.size w w':=by
 have hu63:=Tryz.underlying63
 have HR0:=sd hr0
 have HC0:=sd hc0
 clear hr0 hc0
 have HB:=sd (Below.refl w.heap.size w)
 have H:(sextonref22_Own.l0 k l0 ([]:List (S63)) 0)=some r:=h
 clear h
 have H':=sd H
 clear H
 go_enter Tryz.func25,Tryz.ntmps25
 go_wp2
 go_loopg [3,4] k (fun kq v3 v4 w'=>∃ (x3_1:List (S63)) (x4_1:Int),v4=.int .i64 x4_1∧Aside0 (sextonref22_Own.l0 kq l0 x3_1 x4_1=some r)∧Aside0 (kq≤k)∧Aside0 (Kd.S k63 63 w' w.heap.size (fun _=>True) v3 x3_1)∧Aside0 (Below w.heap.size w w'))
 case atStart=>exact ⟨(([]:List (S63))),(0),(by rfl),H',⟨Nat.le_refl _⟩,⟨by (exact Kd.S_nil _ _ _ _ _)⟩,⟨HB.out⟩⟩
 case round =>
  clear H'
  obtain ⟨x3_1,x4_1,rfl,HA,HK1,HO_3,HB⟩:=hrel
  cases gk with
  | zero=>exact absurd HA.out (by simp [sextonref22_Own.l0])
  | succ k1 =>
   have H:=HA.out
   clear HA
   simp only [sextonref22_Own.l0] at H
   by_cases c2:x4_1 < (l0.length:Int)
   ·rw [if_pos c2] at H
    have c2b0:decide (x4_1 < (l0.length:Int))=true:=decide_eq_true c2
    clear c2
    by_cases c3:0≤x4_1
    ·rw [if_pos c3] at H
     have c3b0:decide (0≤x4_1)=true:=decide_eq_true c3
     clear c3
     replace H:=Option.bind_eq_some_iff.mp H
     obtain ⟨⟨t126,t127,t128,t129⟩,A40,H⟩:=H
     replace H:(if x3_1.length < 2932031007402 then (sextonref22_Own.l0 k1 l0 (x3_1++[(⟨t126,t127,t128,t129⟩:S63)]) (wrap64 (x4_1+1))) else (none))=some r:=H
     have A4:=sd A40
     clear A40
     by_cases c5:x3_1.length < 2932031007402
     ·rw [if_pos c5] at H
      have LMc5:=sd c5
      clear c5
      obtain ⟨y133,hy133⟩:∃ y_:List (S63),y_=(x3_1++[(⟨t126,t127,t128,t129⟩:S63)]):=⟨_,rfl⟩
      replace H:(sextonref22_Own.l0 k1 l0 y133 (wrap64 (x4_1+1)))=some r:=by (rw [hy133];with_reducible exact H)
      have Ny133:=sd hy133
      clear hy133
      have H':=sd H
      clear H
      have p125:0≤(x4_1:Int):=of_decide_eq_true (by (with_reducible assumption))
      have q125:x4_1 < (l0.length:Int):=of_decide_eq_true (by (with_reducible assumption))
      obtain ⟨ad125,A125_3,c125_3,e125,hx125_0,hx125_1,hx125_2,hx125_3,hl125_3,hi125_3⟩:=at_T63 HR0.out x4_1 p125 q125
      cases e125
      replace hx125_0:=(HB.out.cell (World.block_lt_of_cell? w _ hx125_0)).trans hx125_0
      replace hx125_1:=(HB.out.cell (World.block_lt_of_cell? w _ hx125_1)).trans hx125_1
      replace hx125_2:=(HB.out.cell (World.block_lt_of_cell? w _ hx125_2)).trans hx125_2
      replace hx125_3:=(HB.out.cell (World.block_lt_of_cell? w _ hx125_3)).trans hx125_3
      have HR125_3:=sd hi125_3
      have HC125_3:=sd hl125_3
      clear hi125_3 hl125_3
      replace p125:=eq_true p125
      replace q125:=eq_true q125
      go_wp2_with (first | ((with_reducible refine gate_callee (f:=65) rfl ?_);refine goesL_ (some 16) rfl rfl Tryz.func65 (by kernel_rfl) rfl #[.agg #[((rd_T63 l0 x4_1).f0),((rd_T63 l0 x4_1).f1),((rd_T63 l0 x4_1).f2),.slice A125_3 ((rd_T63 l0 x4_1).f3).length c125_3]] rfl (by (try simp only [List.map_toArray,List.map_cons,List.map_nil]);rfl) ?_;(with_reducible refine (sextonref22_OwnVote.calls ((rd_T63 l0 x4_1).f0) ((rd_T63 l0 x4_1).f1) ((rd_T63 l0 x4_1).f2) _ _ ((rd_T63 l0 x4_1).f3) t126 t127 t128 t129 _ ?side1 ?side2 A4.out).mono ?_);(case side1=>exact (Kd.C_below HR125_3.out HB.out));(case side2=>exact HC125_3.out);rintro e w6 ⟨v130,rfl,ho0,hb⟩;refine ⟨_,rfl,?_⟩;replace HO_3:=sd (Kd.S_elder' HO_3.out (Kd.R_base ho0) hb);have HO131:=sd (Kd.R_lower ho0 (below_size HB.out));replace HB:=sd (below_step HB.out hb);(try clear hb);(try clear ho0)) | ((with_reducible refine gate_dst (N:=5) rfl ?_);refine box_event ?hg (N:=5) ?hd (cs:=#[.int .i64 0,.int .i64 0,.int .i64 0,.slice none 0 0]) (t:=63) ?hr ?_;(case hd=>rfl);(case hg=>rfl);(case hr=>(go_simp;done));intro gb132 hg w7 hbox hb;replace HO_3:=sd (Kd.S_below (Kd.S_elderB HO_3.out gb132 (Nat.le_of_eq hg.symm)) hb);replace HO131:=sd (Kd.R_below HO131.out hb);have BK132:=sd (hbox);have GW132:=sd ((by rw [hg];exact (below_size HB.out):w.heap.size≤gb132));have GE132:=sd ((by rw [hg];exact (below_size HB.out):w.heap.size≤gb132));replace HB:=sd (below_step HB.out hb);clear hb hbox hg;obtain ⟨hcz8_0,hcz8_1,hcz8_2,hcz8_3⟩:=cells4 BK132.out;have hfz8:=fr_of BK132.out;obtain ⟨Ao9,co9,eo9⟩:=Kd.R_slice HO131.out;subst eo9) | ((with_reducible refine gate_store (t:=63) (p:=5) rfl ?_);refine store_event (t:=63) (p:=5) (v:=?vo_w10) (w1:=((((w7.setCell ⟨gb132,0,none⟩ t126).setCell ⟨gb132,1,none⟩ t127).setCell ⟨gb132,2,none⟩ t128).setCell ⟨gb132,3,none⟩ (.slice Ao9 t129.length co9))) ?hg ?ho ?hn ?hr ?_;(case ho=>rfl);(case hg=>rfl);(case hn=>rfl);(case hr=>(go_simp;done));intro w10 hw;have n0_:Aside0 (Kd.S k63 63 w10 w.heap.size (fun k_=>some k_≠(.slice Ao9 t129.length co9:Value).ownBlock∧k_≠gb132) u3 x3_1):=⟨(by rw [hw];exact (by (with_reducible repeat (fail));exact Kd.S_mono (Kd.S_far (p:=⟨gb132,3,none⟩) (Kd.S_far (p:=⟨gb132,2,none⟩) (Kd.S_far (p:=⟨gb132,1,none⟩) (Kd.S_far (p:=⟨gb132,0,none⟩) (Kd.S_mono HO_3.out (fun k_ hk=>(⟨hk,hk.2⟩:_∧k_≠gb132))) (fun _ hk=>hk.2) t126) (fun _ hk=>hk.2) t127) (fun _ hk=>hk.2) t128) (fun _ hk=>hk.2) (.slice Ao9 t129.length co9)) (fun _ hk=>⟨hk.1.1.2,hk.1.2⟩)))⟩;have n1_:Aside0 (Kd.R Kd.string 9 w10 w.heap.size (fun _=>True) (.slice Ao9 t129.length co9) t129):=⟨(by rw [hw];exact (by (with_reducible repeat (fail));exact Kd.R_mono (Kd.R_far (p:=⟨gb132,3,none⟩) (Kd.R_far (p:=⟨gb132,2,none⟩) (Kd.R_far (p:=⟨gb132,1,none⟩) (Kd.R_far (p:=⟨gb132,0,none⟩) (Kd.R_types HO131.out BK132.out (by decide)) (fun _ hk=>hk.2) t126) (fun _ hk=>hk.2) t127) (fun _ hk=>hk.2) t128) (fun _ hk=>hk.2) (.slice Ao9 t129.length co9)) (fun _ hk=>trivial)))⟩;have n2_:Aside0 (w10.heap[gb132]?=some (.cells #[t126,t127,t128,.slice Ao9 t129.length co9] 63 (0,0))):=⟨(by rw [hw];exact (by (with_reducible repeat (fail));refine blk_put (cs:=#[t126,t127,t128,.slice none 0 0]) ?_ 3 _ rfl;(with_reducible repeat (fail));refine blk_put (cs:=#[t126,t127,.int .i64 0,.slice none 0 0]) ?_ 2 _ rfl;(with_reducible repeat (fail));refine blk_put (cs:=#[t126,.int .i64 0,.int .i64 0,.slice none 0 0]) ?_ 1 _ rfl;(with_reducible repeat (fail));refine blk_put (cs:=#[.int .i64 0,.int .i64 0,.int .i64 0,.slice none 0 0]) ?_ 0 _ rfl;(with_reducible repeat (fail));exact BK132.out))⟩;have n3_:Aside0 (Below w.heap.size w w10):=⟨(by rw [hw];exact (by repeat ((with_reducible first | exact HB.out | refine below_set ?_ GE132.out))))⟩;clear hw;clear HO_3;clear HO131;clear BK132;clear HB;have HO_3:=n0_;have HO131:=n1_;have BK132:=n2_;have HB:=n3_;clear n0_ n1_ n2_ n3_;obtain ⟨hcz11_0,hcz11_1,hcz11_2,hcz11_3⟩:=cells4 BK132.out;have hfz11:=fr_of BK132.out) | ((with_reducible refine gate_builtin (b:=.append) (xs:=#[.tmp 17,.tmp 19]) rfl ?_);at_builtin;refine Kd.S_append k63 (w0:=w) w.heap.size rfl (.tmp 17) (.tmp 19) 24 63 (.agg #[(.int .i64 0),(.int .i64 0),(.int .i64 0),(.slice none 0 0)]) 48 rfl Tryz.underlying24 info63 rfl (by decide) (by omega) u3 x3_1 (⟨t126,t127,t128,t129⟩:S63) [.int .i64 t126,.int .i64 t127,.int .i64 t128,.slice Ao9 t129.length co9] (fun k_=>k_≠gb132) (fun k_=>some k_=(.slice Ao9 t129.length co9:Value).ownBlock) rfl rfl ?aP (fun k_ hk_=>((Kd.R_mono (ok':=fun k_=>((fun k_=>k_≠gb132)) k_∧some k_≠(u3:Value).ownBlock) (Kd.R_types (Kd.R_apart' (HO131.out) (Kd.S_typed HO_3.out) (by decide)) BK132.out (by decide)) (fun k_ hk=>⟨hk.2,hk.1.2⟩))).1 k_ hk_.symm) ?aF ?aO ?aB ?aS ?aL ?_;(case aP=>exact k63_mkM _ _ _ (⟨t126,t127,t128,t129⟩:S63) (Kd.R_mono (Kd.R_tight rfl (Kd.R_mono (ok':=fun k_=>((fun k_=>k_≠gb132)) k_∧some k_≠(u3:Value).ownBlock) (Kd.R_types (Kd.R_apart' (HO131.out) (Kd.S_typed HO_3.out) (by decide)) BK132.out (by decide)) (fun k_ hk=>⟨hk.2,hk.1.2⟩))) (fun _ h_=>h_)));(case aB=>exact HB.out);(case aF=>exact (fun k_ hk=>Kd.freshB (g:=gb132) (o:=.cells #[t126,t127,t128,.slice Ao9 t129.length co9] 63 (0,0)) BK132.out k_ hk));(case aO=>exact (by (with_reducible repeat (fail));exact Kd.S_mono HO_3.out (fun k_ hk=>⟨hk.2,fun e_=>hk.1 e_⟩)));(case aS=>exact (below_size HB.out));(case aL=>have:=LMc5.out;omega);intro v134 w12 ho hb hg hat;rw [← Ny133.out] at ho;replace BK132:=sd (blk_grown (g:=gb132) (o:=.cells #[t126,t127,t128,.slice Ao9 t129.length co9] 63 (0,0)) BK132.out hg (Kd.S_away HO_3.out (fun _ hk=>hk.2)));replace HB:=sd (hb);have HO135:=sd (ho);clear HO_3 HO131;clear ho hb hg hat))
      go_roundg k1
      case measure=>have:=HK1.out;omega
      case rel=>exact ⟨(y133),(wrap64 (x4_1+1)),(by rfl),H',⟨by have:=HK1.out;omega⟩,⟨by (with_reducible repeat (fail));exact Kd.S_mono HO135.out (fun _ hk=>trivial)⟩,⟨HB.out⟩⟩
     ·rw [if_neg c5] at H
      exact absurd H (by simp)
    ·rw [if_neg c3] at H
     exact absurd H (by simp)
   ·rw [if_neg c2] at H
    have c2b0:decide (x4_1 < (l0.length:Int))=false:=decide_eq_false c2
    clear c2
    obtain rfl:=Option.some.inj H
    go_wp2
    go_ret
    exact ⟨_,by rfl,by (with_reducible repeat (fail));exact HO_3.out,HB.out⟩
def sextonref24_size.f (a0:Int):Option (Bool):=if a0=1 then (some true) else (if a0=3 then (some true) else (if a0=5 then (some true) else (some (a0==7))))
theorem sextonref24_size.calls (a0:Int) (r:Bool) (w:World) (h:sextonref24_size.f a0=some r) :
  Calls Tryz.prog 59 #[a0] w fun e w'=>e=.returned r∧Drawn0 w w':=by
 have H:(if a0=1 then (some true) else (if a0=3 then (some true) else (if a0=5 then (some true) else (some (a0==7)))))=some r:=h
 clear h
 by_cases c2:a0=1
 ·rw [if_pos c2] at H
  have c2b0:(a0==1)=true:=beq_iff_eq.mpr c2
  have c2b1:(a0 != 1)=false:=bne_eq_false_iff_eq.mpr c2
  clear c2
  obtain rfl:=Option.some.inj H
  go_enter Tryz.func59,Tryz.ntmps59
  go_wp2
  go_ret
  exact ⟨by rfl,by repeat ((exact Drawn0.refl _))⟩
 ·rw [if_neg c2] at H
  have c2b0:(a0==1)=false:=beq_eq_false_iff_ne.mpr c2
  have c2b1:(a0 != 1)=true:=bne_iff_ne.mpr c2
  by_cases c3:a0=3
  ·rw [if_pos c3] at H
   have c3b0:(a0==3)=true:=beq_iff_eq.mpr c3
   have c3b1:(a0 != 3)=false:=bne_eq_false_iff_eq.mpr c3
   clear c3
   obtain rfl:=Option.some.inj H
   go_enter Tryz.func59,Tryz.ntmps59
   go_wp2
   go_ret
   exact ⟨by rfl,by repeat ((exact Drawn0.refl _))⟩
  ·rw [if_neg c3] at H
   have c3b0:(a0==3)=false:=beq_eq_false_iff_ne.mpr c3
   have c3b1:(a0 != 3)=true:=bne_iff_ne.mpr c3
   by_cases c4:a0=5
   ·rw [if_pos c4] at H
    have c4b0:(a0==5)=true:=beq_iff_eq.mpr c4
    have c4b1:(a0 != 5)=false:=bne_eq_false_iff_eq.mpr c4
    clear c4
    obtain rfl:=Option.some.inj H
    go_enter Tryz.func59,Tryz.ntmps59
    go_wp2
    go_ret
    exact ⟨by rfl,by repeat ((exact Drawn0.refl _))⟩
   ·rw [if_neg c4] at H
    have c4b0:(a0==5)=false:=beq_eq_false_iff_ne.mpr c4
    have c4b1:(a0 != 5)=true:=bne_iff_ne.mpr c4
    obtain rfl:=Option.some.inj H
    go_enter Tryz.func59,Tryz.ntmps59
    go_wp2
    go_ret
    exact ⟨by rfl,by repeat ((exact Drawn0.refl _))⟩
def sextonref23_Log.l0:Nat→List ByteArray→Int→Option (Bool)
 | 0,_,_=>none
 | k+1,x0,x3=>if x3 < (x0.length:Int) then (if 0≤x3 then (if ((rdOf ByteArray.empty x0 x3).size:Int) > 300 then (some false) else (sextonref23_Log.l0 k x0 (wrap64 (x3+1)))) else (none)) else (some (decide ((x0.length:Int)≤60)))
def sextonref23_Log.f (k:Nat) (l0:List ByteArray):Option (Bool):=sextonref23_Log.l0 k l0 0
theorem sextonref23_Log.calls (k:Nat) (A0:Option Addr) (c0:Nat) (l0:List ByteArray) (r:Bool) (w:World) (hr0:Kd.C Kd.string w A0 l0.length l0) (hc0:l0.length≤c0) (h:sextonref23_Log.f k l0=some r) :
  Calls Tryz.prog 62 #[.slice A0 l0.length c0] w fun e w'=>e=.returned r∧Drawn0 w w':=by
 have HR0:=sd hr0
 have HC0:=sd hc0
 clear hr0 hc0
 have H:(sextonref23_Log.l0 k l0 0)=some r:=h
 clear h
 have H':=sd H
 clear H
 go_enter Tryz.func62,Tryz.ntmps62
 go_wp2
 go_loopg [3] k (fun kq v3 w'=>∃ (x3_1:Int),v3=.int .i64 x3_1∧Aside0 (sextonref23_Log.l0 kq l0 x3_1=some r)∧Aside0 (kq≤k)∧Drawn0 w w')
 case atStart=>exact ⟨(0),(by rfl),H',⟨Nat.le_refl _⟩,by repeat ((exact Drawn0.refl _))⟩
 case round =>
  clear H'
  obtain ⟨x3_1,rfl,HA,HK1,⟨m1,rfl⟩⟩:=hrel
  cases gk with
  | zero=>exact absurd HA.out (by simp [sextonref23_Log.l0])
  | succ k1 =>
   have H:=HA.out
   clear HA
   simp only [sextonref23_Log.l0] at H
   by_cases c2:x3_1 < (l0.length:Int)
   ·rw [if_pos c2] at H
    have c2b0:decide (x3_1 < (l0.length:Int))=true:=decide_eq_true c2
    clear c2
    by_cases c3:0≤x3_1
    ·rw [if_pos c3] at H
     have c3b0:decide (0≤x3_1)=true:=decide_eq_true c3
     clear c3
     by_cases c4:((rdOf ByteArray.empty l0 x3_1).size:Int) > 300
     ·rw [if_pos c4] at H
      have c4b0:decide (300 < ((rdOf ByteArray.empty l0 x3_1).size:Int))=true:=decide_eq_true c4
      have c4b1:decide (300 < (rdOf ByteArray.empty l0 x3_1).size)=true:=decide_eq_true (by omega)
      clear c4
      obtain rfl:=Option.some.inj H
      have p147:0≤(x3_1:Int):=of_decide_eq_true (by (with_reducible assumption))
      have q147:x3_1 < (l0.length:Int):=of_decide_eq_true (by (with_reducible assumption))
      obtain ⟨ad147,e147,hx147_0⟩:=Kd.at_string HR0.out x3_1 p147 q147
      cases e147
      replace p147:=eq_true p147
      replace q147:=eq_true q147
      go_wp2
      go_ret
      exact ⟨by rfl,by repeat (first | exact Drawn0.refl _ | apply Drawn0.step)⟩
     ·rw [if_neg c4] at H
      have c4b0:decide (300 < ((rdOf ByteArray.empty l0 x3_1).size:Int))=false:=decide_eq_false c4
      have c4b1:decide (300 < (rdOf ByteArray.empty l0 x3_1).size)=false:=decide_eq_false (by omega)
      clear c4
      have H':=sd H
      clear H
      have p147:0≤(x3_1:Int):=of_decide_eq_true (by (with_reducible assumption))
      have q147:x3_1 < (l0.length:Int):=of_decide_eq_true (by (with_reducible assumption))
      obtain ⟨ad147,e147,hx147_0⟩:=Kd.at_string HR0.out x3_1 p147 q147
      cases e147
      replace p147:=eq_true p147
      replace q147:=eq_true q147
      go_wp2
      go_roundg k1
      case measure=>have:=HK1.out;omega
      case rel=>exact ⟨(wrap64 (x3_1+1)),(by rfl),H',⟨by have:=HK1.out;omega⟩,by repeat (first | exact Drawn0.refl _ | apply Drawn0.step)⟩
    ·rw [if_neg c3] at H
     exact absurd H (by simp)
   ·rw [if_neg c2] at H
    have c2b0:decide (x3_1 < (l0.length:Int))=false:=decide_eq_false c2
    clear c2
    obtain rfl:=Option.some.inj H
    go_wp2
    go_ret
    exact ⟨by rfl,by repeat (first | exact Drawn0.refl _ | apply Drawn0.step)⟩
end
end Go.Proofs.YtfpfpckocemmdaaGreat.P
