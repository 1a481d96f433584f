/- Part 50 of the walk. -/
import Derived.Test.YtfpfpckocemmdaaGreatCDoes34
set_option linter.unusedVariables false
set_option linter.unusedSimpArgs false
set_option maxHeartbeats 8000000
set_option maxRecDepth 100000
namespace Go.Proofs.YtfpfpckocemmdaaGreat.P
open Go.RowKit Go.Proofs.YtfpfpckocemmdaaGreatW.PrintWords Go.Proofs.YtfpfpckocemmdaaGreatW.PrintLast Go.Proofs.YtfpfpckocemmdaaGreatW.PrintMore
section
attribute [local go_sem] max2_int min2_int max_two min_two max_three min_three max_four min_four
def wk_T6:Bool×List (List Nat×List Nat):=(true,[([],[]),([],[]),([1],[1]),([2],[2]),([0,3],[0,3]),([4],[4]),([5],[5]),([5],[5]),([5],[5]),([],[]),([9,6,4,0,1,2,3,4,5,6,9],[6,9]),([7,10,0,1,2,3,4,5,6,7,9,10],[7]),([8,11,0,1,2,3,4,5,6,7,8,9,10,11],[8])])
def wk_B6:List Nat:=[0,0,2,6,15,31,63,63,63,0,639,1791,4095]
theorem wk_tab6:rtab .any (opsOf Tryz.f19 6)=wk_T6:=by kernel_rfl
theorem wk_bits6:waitsOk wk_T6.2 wk_B6=true:=by kernel_rfl
def wk_T9:Bool×List (List Nat×List Nat):=(true,[([],[]),([],[]),([1],[1]),([2],[2]),([0,3],[0,3]),([4],[4]),([5],[5]),([5],[5]),([5],[5]),([],[]),([9,6,4,0,1,2,3,4,5,6,9],[6,9]),([7,10,0,1,2,3,4,5,6,7,9,10],[7]),([8,11,0,1,2,3,4,5,6,7,8,9,10,11],[8])])
def wk_B9:List Nat:=[0,0,2,6,15,31,63,63,63,0,639,1791,4095]
theorem wk_tab9:rtab .any (opsOf Tryz.f19 9)=wk_T9:=by kernel_rfl
theorem wk_bits9:waitsOk wk_T9.2 wk_B9=true:=by kernel_rfl
theorem worked_calls (w:World):Calls Tryz.prog 19 #[] w fun e w'=>e=.returned (.bool true)∧Below w.heap.size w w':=by
 have hu26:=Tryz.underlying26
 have hu28:=Tryz.underlying28
 go_enter Tryz.func19,Tryz.ntmps19
 go_wp2_with (first | (go_at_call 17;with_reducible refine (w_new0 _).mono ?_;rintro e w1 ⟨a6,a6',a7,a7',a8,a8',rfl,hA,hb,hK⟩;have HS1:=Aside0.mk ((Stays.new w1 (.cells #[.int .i64 0,.int .i64 3,.int .i64 0,.int .i64 0,.bool true,.int .i64 0,.slice a6 0 a6',.slice a7 3 a7',.slice a8 0 a8'] 26)).and ((Stays.of hK).alloc (.cells #[.int .i64 0,.int .i64 3,.int .i64 0,.int .i64 0,.bool true,.int .i64 0,.slice a6 0 a6',.slice a7 3 a7',.slice a8 0 a8'] 26)));have HB1:=Aside0.mk (below_alloc hb (.cells #[.int .i64 0,.int .i64 3,.int .i64 0,.int .i64 0,.bool true,.int .i64 0,.slice a6 0 a6',.slice a7 3 a7',.slice a8 0 a8'] 26));clear hA hb hK))
 go_at_call 17
 with_reducible refine (w_new1 _).mono ?_
 rintro e w2 ⟨b6,b6',b7,b7',b8,b8',rfl,hA,hb,hK⟩
 have HS2:=Aside0.mk (((HS1.out.below hb).alloc (.cells #[.int .i64 1,.int .i64 3,.int .i64 0,.int .i64 0,.bool true,.int .i64 0,.slice b6 0 b6',.slice b7 3 b7',.slice b8 0 b8'] 26)).and ((Stays.new w2 (.cells #[.int .i64 1,.int .i64 3,.int .i64 0,.int .i64 0,.bool true,.int .i64 0,.slice b6 0 b6',.slice b7 3 b7',.slice b8 0 b8'] 26)).and ((Stays.of hK).alloc (.cells #[.int .i64 1,.int .i64 3,.int .i64 0,.int .i64 0,.bool true,.int .i64 0,.slice b6 0 b6',.slice b7 3 b7',.slice b8 0 b8'] 26))))
 have HB2:=Aside0.mk (below_alloc (below_step HB1.out hb) (.cells #[.int .i64 1,.int .i64 3,.int .i64 0,.int .i64 0,.bool true,.int .i64 0,.slice b6 0 b6',.slice b7 3 b7',.slice b8 0 b8'] 26))
 have p0:(w2.alloc (.cells #[.int .i64 1,.int .i64 3,.int .i64 0,.int .i64 0,.bool true,.int .i64 0,.slice b6 0 b6',.slice b7 3 b7',.slice b8 0 b8'] 26)).cell? ⟨w1.heap.size,0,none⟩=some (.int .i64 0):=blk_cell HS2.out.here.1.1 0
 have p1:(w2.alloc (.cells #[.int .i64 1,.int .i64 3,.int .i64 0,.int .i64 0,.bool true,.int .i64 0,.slice b6 0 b6',.slice b7 3 b7',.slice b8 0 b8'] 26)).cell? ⟨w1.heap.size,1,none⟩=some (.int .i64 3):=blk_cell HS2.out.here.1.1 1
 have p2:(w2.alloc (.cells #[.int .i64 1,.int .i64 3,.int .i64 0,.int .i64 0,.bool true,.int .i64 0,.slice b6 0 b6',.slice b7 3 b7',.slice b8 0 b8'] 26)).cell? ⟨w1.heap.size,2,none⟩=some (.int .i64 0):=blk_cell HS2.out.here.1.1 2
 have p3:(w2.alloc (.cells #[.int .i64 1,.int .i64 3,.int .i64 0,.int .i64 0,.bool true,.int .i64 0,.slice b6 0 b6',.slice b7 3 b7',.slice b8 0 b8'] 26)).cell? ⟨w1.heap.size,3,none⟩=some (.int .i64 0):=blk_cell HS2.out.here.1.1 3
 have p4:(w2.alloc (.cells #[.int .i64 1,.int .i64 3,.int .i64 0,.int .i64 0,.bool true,.int .i64 0,.slice b6 0 b6',.slice b7 3 b7',.slice b8 0 b8'] 26)).cell? ⟨w1.heap.size,4,none⟩=some (.bool true):=blk_cell HS2.out.here.1.1 4
 have p5:(w2.alloc (.cells #[.int .i64 1,.int .i64 3,.int .i64 0,.int .i64 0,.bool true,.int .i64 0,.slice b6 0 b6',.slice b7 3 b7',.slice b8 0 b8'] 26)).cell? ⟨w1.heap.size,5,none⟩=some (.int .i64 0):=blk_cell HS2.out.here.1.1 5
 have p6:(w2.alloc (.cells #[.int .i64 1,.int .i64 3,.int .i64 0,.int .i64 0,.bool true,.int .i64 0,.slice b6 0 b6',.slice b7 3 b7',.slice b8 0 b8'] 26)).cell? ⟨w1.heap.size,6,none⟩=some (.slice a6 0 a6'):=blk_cell HS2.out.here.1.1 6
 have p7:(w2.alloc (.cells #[.int .i64 1,.int .i64 3,.int .i64 0,.int .i64 0,.bool true,.int .i64 0,.slice b6 0 b6',.slice b7 3 b7',.slice b8 0 b8'] 26)).cell? ⟨w1.heap.size,7,none⟩=some (.slice a7 3 a7'):=blk_cell HS2.out.here.1.1 7
 have p8:(w2.alloc (.cells #[.int .i64 1,.int .i64 3,.int .i64 0,.int .i64 0,.bool true,.int .i64 0,.slice b6 0 b6',.slice b7 3 b7',.slice b8 0 b8'] 26)).cell? ⟨w1.heap.size,8,none⟩=some (.slice a8 0 a8'):=blk_cell HS2.out.here.1.1 8
 clear hA hb hK HS1 HB1
 go_wp2_with (fail)
 go_at_call 6
 with_reducible refine (w_ask1 _ _ _ _ _ _ _ HS2.out.here.1.2).mono ?_
 rintro e w3 ⟨c6,c6',c7,c7',c8,c8',t6,t6',rfl,hA,h9,hC,hb,hK⟩
 have HS3:=Aside0.mk (show Stays (w3.alloc (.cells #[.int .i64 0,.int .i64 3,.int .i64 0,.int .i64 0,.bool true,.int .i64 0,.slice c6 1 c6',.slice c7 3 c7',.slice c8 0 c8'] 26)) (fun W=>W.heap[w2.heap.size]?=some (.cells #[.int .i64 1,.int .i64 3,.int .i64 0,.int .i64 0,.bool true,.int .i64 0,.slice b6 0 b6',.slice b7 3 b7',.slice b8 0 b8'] 26 (0,0))∧W.heap[w3.heap.size]?=some (.cells #[.int .i64 0,.int .i64 3,.int .i64 0,.int .i64 0,.bool true,.int .i64 0,.slice c6 1 c6',.slice c7 3 c7',.slice c8 0 c8'] 26 (0,0))∧Arg W (⟨1,3,0,0,true,0,[],[0,0,0],[],[]⟩:Nod) b6 b7 b8 b6' b7' b8'∧Arg W (⟨0,3,0,0,true,0,[⟨#[97]⟩],[1,0,0],[],[⟨1,0,1,0,0,0,0,[⟨#[97]⟩]⟩,⟨1,0,2,0,0,0,0,[⟨#[97]⟩]⟩]⟩:Nod) c6 c7 c8 c6' c7' c8'∧Kd.C k28 W t6 2 [(⟨1,0,1,0,0,0,0,[⟨#[97]⟩]⟩:S28),(⟨1,0,2,0,0,0,0,[⟨#[97]⟩]⟩:S28)]) from (((HS2.out.below hb).alloc (.cells #[.int .i64 0,.int .i64 3,.int .i64 0,.int .i64 0,.bool true,.int .i64 0,.slice c6 1 c6',.slice c7 3 c7',.slice c8 0 c8'] 26)).and ((Stays.new w3 (.cells #[.int .i64 0,.int .i64 3,.int .i64 0,.int .i64 0,.bool true,.int .i64 0,.slice c6 1 c6',.slice c7 3 c7',.slice c8 0 c8'] 26)).and ((Stays.of hK).alloc (.cells #[.int .i64 0,.int .i64 3,.int .i64 0,.int .i64 0,.bool true,.int .i64 0,.slice c6 1 c6',.slice c7 3 c7',.slice c8 0 c8'] 26)))).mono (fun W' h=>⟨h.1.2.1,h.2.1,h.1.2.2,h.2.2.1,h.2.2.2⟩))
 have HB:=Aside0.mk (below_alloc (below_step HB2.out hb) (.cells #[.int .i64 0,.int .i64 3,.int .i64 0,.int .i64 0,.bool true,.int .i64 0,.slice c6 1 c6',.slice c7 3 c7',.slice c8 0 c8'] 26))
 have q0:(w3.alloc (.cells #[.int .i64 0,.int .i64 3,.int .i64 0,.int .i64 0,.bool true,.int .i64 0,.slice c6 1 c6',.slice c7 3 c7',.slice c8 0 c8'] 26)).cell? ⟨w2.heap.size,0,none⟩=some (.int .i64 1):=blk_cell HS3.out.here.1 0
 have q1:(w3.alloc (.cells #[.int .i64 0,.int .i64 3,.int .i64 0,.int .i64 0,.bool true,.int .i64 0,.slice c6 1 c6',.slice c7 3 c7',.slice c8 0 c8'] 26)).cell? ⟨w2.heap.size,1,none⟩=some (.int .i64 3):=blk_cell HS3.out.here.1 1
 have q2:(w3.alloc (.cells #[.int .i64 0,.int .i64 3,.int .i64 0,.int .i64 0,.bool true,.int .i64 0,.slice c6 1 c6',.slice c7 3 c7',.slice c8 0 c8'] 26)).cell? ⟨w2.heap.size,2,none⟩=some (.int .i64 0):=blk_cell HS3.out.here.1 2
 have q3:(w3.alloc (.cells #[.int .i64 0,.int .i64 3,.int .i64 0,.int .i64 0,.bool true,.int .i64 0,.slice c6 1 c6',.slice c7 3 c7',.slice c8 0 c8'] 26)).cell? ⟨w2.heap.size,3,none⟩=some (.int .i64 0):=blk_cell HS3.out.here.1 3
 have q4:(w3.alloc (.cells #[.int .i64 0,.int .i64 3,.int .i64 0,.int .i64 0,.bool true,.int .i64 0,.slice c6 1 c6',.slice c7 3 c7',.slice c8 0 c8'] 26)).cell? ⟨w2.heap.size,4,none⟩=some (.bool true):=blk_cell HS3.out.here.1 4
 have q5:(w3.alloc (.cells #[.int .i64 0,.int .i64 3,.int .i64 0,.int .i64 0,.bool true,.int .i64 0,.slice c6 1 c6',.slice c7 3 c7',.slice c8 0 c8'] 26)).cell? ⟨w2.heap.size,5,none⟩=some (.int .i64 0):=blk_cell HS3.out.here.1 5
 have q6:(w3.alloc (.cells #[.int .i64 0,.int .i64 3,.int .i64 0,.int .i64 0,.bool true,.int .i64 0,.slice c6 1 c6',.slice c7 3 c7',.slice c8 0 c8'] 26)).cell? ⟨w2.heap.size,6,none⟩=some (.slice b6 0 b6'):=blk_cell HS3.out.here.1 6
 have q7:(w3.alloc (.cells #[.int .i64 0,.int .i64 3,.int .i64 0,.int .i64 0,.bool true,.int .i64 0,.slice c6 1 c6',.slice c7 3 c7',.slice c8 0 c8'] 26)).cell? ⟨w2.heap.size,7,none⟩=some (.slice b7 3 b7'):=blk_cell HS3.out.here.1 7
 have q8:(w3.alloc (.cells #[.int .i64 0,.int .i64 3,.int .i64 0,.int .i64 0,.bool true,.int .i64 0,.slice c6 1 c6',.slice c7 3 c7',.slice c8 0 c8'] 26)).cell? ⟨w2.heap.size,8,none⟩=some (.slice b8 0 b8'):=blk_cell HS3.out.here.1 8
 clear hA h9 hC hb hK HS2 HB2 p0 p1 p2 p3 p4 p5 p6 p7 p8
 obtain ⟨ad3,zM,zm,ze,z0,z1,z2,z3,z4,z5,z6,z7,zl,zh⟩:=at_T28 HS3.out.here.2.2.2.2 0 (by decide) (by decide)
 cases ze
 simp only [show (0:Int).toNat=0 from rfl,Nat.zero_mul,Nat.one_mul] at z0 z1 z2 z3 z4 z5 z6 z7
 change _=some (Value.int .i64 1) at z0
 change _=some (Value.int .i64 0) at z1
 change _=some (Value.int .i64 1) at z2
 change _=some (Value.int .i64 0) at z3
 change _=some (Value.int .i64 0) at z4
 change _=some (Value.int .i64 0) at z5
 change _=some (Value.int .i64 0) at z6
 change _=some (Value.slice zM 1 zm) at z7
 rw [show ad3.add 0=ad3 from rfl] at z0 z1 z2 z3 z4 z5 z6 z7
 have HZ:=Aside0.mk (show Kd.C Kd.string (w3.alloc (.cells #[.int .i64 0,.int .i64 3,.int .i64 0,.int .i64 0,.bool true,.int .i64 0,.slice c6 1 c6',.slice c7 3 c7',.slice c8 0 c8'] 26)) zM 1 [⟨#[97]⟩] from zh)
 have HZL:=Aside0.mk (show 1≤zm from zl)
 clear zh zl
 obtain ⟨ad3',yM,ym,ze,y0,y1,y2,y3,y4,y5,y6,y7,zl,zh⟩:=at_T28 HS3.out.here.2.2.2.2 1 (by decide) (by decide)
 cases ze
 simp only [show (1:Int).toNat=1 from rfl,Nat.zero_mul,Nat.one_mul] at y0 y1 y2 y3 y4 y5 y6 y7
 change _=some (Value.int .i64 1) at y0
 change _=some (Value.int .i64 0) at y1
 change _=some (Value.int .i64 2) at y2
 change _=some (Value.int .i64 0) at y3
 change _=some (Value.int .i64 0) at y4
 change _=some (Value.int .i64 0) at y5
 change _=some (Value.int .i64 0) at y6
 change _=some (Value.slice yM 1 ym) at y7
 change (w3.alloc (.cells #[.int .i64 0,.int .i64 3,.int .i64 0,.int .i64 0,.bool true,.int .i64 0,.slice c6 1 c6',.slice c7 3 c7',.slice c8 0 c8'] 26)).cell? ⟨ad3.block,ad3.off+8+2,none⟩=_ at y2
 clear y0 y1 y3 y4 y5 y6 y7 zh zl
 have HS:=Aside0.mk (show Stays (w3.alloc (.cells #[.int .i64 0,.int .i64 3,.int .i64 0,.int .i64 0,.bool true,.int .i64 0,.slice c6 1 c6',.slice c7 3 c7',.slice c8 0 c8'] 26)) (fun W=>W.heap[w2.heap.size]?=some (.cells #[.int .i64 1,.int .i64 3,.int .i64 0,.int .i64 0,.bool true,.int .i64 0,.slice b6 0 b6',.slice b7 3 b7',.slice b8 0 b8'] 26 (0,0))∧W.heap[w3.heap.size]?=some (.cells #[.int .i64 0,.int .i64 3,.int .i64 0,.int .i64 0,.bool true,.int .i64 0,.slice c6 1 c6',.slice c7 3 c7',.slice c8 0 c8'] 26 (0,0))∧Arg W (⟨1,3,0,0,true,0,[],[0,0,0],[],[]⟩:Nod) b6 b7 b8 b6' b7' b8'∧Arg W (⟨0,3,0,0,true,0,[⟨#[97]⟩],[1,0,0],[],[⟨1,0,1,0,0,0,0,[⟨#[97]⟩]⟩,⟨1,0,2,0,0,0,0,[⟨#[97]⟩]⟩]⟩:Nod) c6 c7 c8 c6' c7' c8') from HS3.out.mono (fun W' h=>⟨h.1,h.2.1,h.2.2.1,h.2.2.2.1⟩))
 clear HS3
 go_wp2_with (fail)
 clear y2
 generalize (w3.alloc (.cells #[.int .i64 0,.int .i64 3,.int .i64 0,.int .i64 0,.bool true,.int .i64 0,.slice c6 1 c6',.slice c7 3 c7',.slice c8 0 c8'] 26))=wc at HS HB HZ q0 q1 q2 q3 q4 q5 q6 q7 q8 z0 z1 z2 z3 z4 z5 z6 z7 ⊢
 refine start_ (n:=13) (S:=fun w'=>w'.cell? ⟨w2.heap.size,0,none⟩=some (.int .i64 1)∧w'.cell? ⟨w2.heap.size,1,none⟩=some (.int .i64 3)∧w'.cell? ⟨w2.heap.size,2,none⟩=some (.int .i64 0)∧w'.cell? ⟨w2.heap.size,3,none⟩=some (.int .i64 0)∧w'.cell? ⟨w2.heap.size,4,none⟩=some (.bool true)∧w'.cell? ⟨w2.heap.size,5,none⟩=some (.int .i64 0)∧w'.cell? ⟨w2.heap.size,6,none⟩=some (.slice b6 0 b6')∧w'.cell? ⟨w2.heap.size,7,none⟩=some (.slice b7 3 b7')∧w'.cell? ⟨w2.heap.size,8,none⟩=some (.slice b8 0 b8')∧w'.cell? ad3=some (.int .i64 1)∧w'.cell? ⟨ad3.block,ad3.off+1,none⟩=some (.int .i64 0)∧w'.cell? ⟨ad3.block,ad3.off+2,none⟩=some (.int .i64 1)∧w'.cell? ⟨ad3.block,ad3.off+3,none⟩=some (.int .i64 0)∧w'.cell? ⟨ad3.block,ad3.off+4,none⟩=some (.int .i64 0)∧w'.cell? ⟨ad3.block,ad3.off+5,none⟩=some (.int .i64 0)∧w'.cell? ⟨ad3.block,ad3.off+6,none⟩=some (.int .i64 0)∧w'.cell? ⟨ad3.block,ad3.off+7,none⟩=some (.slice zM 1 zm)) (ds:=[]) #[false,false,false,false,false,false,false,false,false,false,false,false,false] (by kernel_rfl) rfl rfl ⟨q0,q1,q2,q3,q4,q5,q6,q7,q8,z0,z1,z2,z3,z4,z5,z6,z7⟩ (fun hHeld=>?_)
 refine with_tabW wk_tab6 wk_bits6 (fun HT_ HW_=>?_)
 have HS':Aside0 (Stays wc.drew (fun W=>W.heap[w2.heap.size]?=some (.cells #[.int .i64 1,.int .i64 3,.int .i64 0,.int .i64 0,.bool true,.int .i64 0,.slice b6 0 b6',.slice b7 3 b7',.slice b8 0 b8'] 26 (0,0))∧W.heap[w3.heap.size]?=some (.cells #[.int .i64 0,.int .i64 3,.int .i64 0,.int .i64 0,.bool true,.int .i64 0,.slice c6 1 c6',.slice c7 3 c7',.slice c8 0 c8'] 26 (0,0))∧Arg W (⟨1,3,0,0,true,0,[],[0,0,0],[],[]⟩:Nod) b6 b7 b8 b6' b7' b8'∧Arg W (⟨0,3,0,0,true,0,[⟨#[97]⟩],[1,0,0],[],[⟨1,0,1,0,0,0,0,[⟨#[97]⟩]⟩,⟨1,0,2,0,0,0,0,[⟨#[97]⟩]⟩]⟩:Nod) c6 c7 c8 c6' c7' c8')):=⟨HS.out⟩
 have HB':Aside0 (Below w.heap.size w wc.drew):=⟨below_drew1 HB.out⟩
 have HZ':Aside0 (Kd.C Kd.string wc.drew zM 1 [⟨#[97]⟩]):=⟨HZ.out⟩
 have hgin':w2.heap.size < wc.drew.heap.size:=World.block_lt_of_cell? _ _ hHeld.1
 have had':ad3.block < wc.drew.heap.size:=World.block_lt_of_cell? _ _ hHeld.2.2.2.2.2.2.2.2.2.1
 clear HS HB HZ q0 q1 q2 q3 q4 q5 q6 q7 q8 z0 z1 z2 z3 z4 z5 z6 z7
 generalize wc.drew=w0_6 at HS' HB' HZ' hgin' had' hHeld ⊢
 have HB0:=Aside0.mk (below_size HB'.out)
 refine pure_ (i:=1) (N:=some 65) (v:=?_) (a':=?_) #[false,true,false,false,false,false,false,false,false,false,false,false,false] rfl rfl (any_of HT_.out (by kernel_rfl)) (fun _ _ _ h=>h) (Or.inl ⟨by rfl,?_⟩) ?_ ?_
 rotate_left
 ·intro w'
  go_simp
  with_reducible rfl
 rotate_left
 ·simp only [Act.put,List.setIfInBounds_toArray,List.set_cons_zero,List.set_cons_succ,i64_w,i32_w]
  rfl
 refine pure_ (i:=2) (N:=some 66) (v:=?_) (a':=?_) #[false,true,true,false,false,false,false,false,false,false,false,false,false] rfl rfl (any_of HT_.out (by kernel_rfl)) (fun _ _ _ h=>h) (Or.inl ⟨by rfl,?_⟩) ?_ ?_
 rotate_left
 ·intro w'
  go_simp
  with_reducible rfl
 rotate_left
 ·simp only [Act.put,List.setIfInBounds_toArray,List.set_cons_zero,List.set_cons_succ,i64_w,i32_w]
  rfl
 refine take_ (i:=0) (N:=some 64) (v:=?_) (a':=?_) #[true,true,true,false,false,false,false,false,false,false,false,false,false] rfl rfl (take_ofW HT_.out HW_.out (by kernel_rfl)) (fun _ _ _ h=>h) (Or.inl ⟨by rfl,?_⟩) hHeld ?_ ?_
 rotate_left
 ·rintro w' ⟨s0,s1,s2,s3,s4,s5,s6,s7,s8,s9,s10,s11,s12,s13,s14,s15,s16⟩
  go_simp
  with_reducible rfl
 rotate_left
 ·simp only [Act.put,List.setIfInBounds_toArray,List.set_cons_zero,List.set_cons_succ,i64_w,i32_w]
  rfl
 refine take_ (i:=3) (N:=some 67) (v:=?_) (a':=?_) #[true,true,true,true,false,false,false,false,false,false,false,false,false] rfl rfl (take_ofW HT_.out HW_.out (by kernel_rfl)) (fun _ _ _ h=>h) (Or.inl ⟨by rfl,?_⟩) hHeld ?_ ?_
 rotate_left
 ·rintro w' ⟨s0,s1,s2,s3,s4,s5,s6,s7,s8,s9,s10,s11,s12,s13,s14,s15,s16⟩
  go_simp
  with_reducible rfl
 rotate_left
 ·simp only [Act.put,List.setIfInBounds_toArray,List.set_cons_zero,List.set_cons_succ,i64_w,i32_w]
  rfl
 refine join_ (σ:=Option Addr×Nat×Option Addr×Nat×Option Addr×Nat×Option Addr×Nat×Nat) 3 #[true,true,true,true,true,true,true,true,true,true,false,false,false] (fun s_=>[(68,.tuple #[.agg #[.int .i64 1,.int .i64 3,.int .i64 0,.int .i64 0,.bool true,.int .i64 0,.slice s_.1 1 s_.2.1,.slice s_.2.2.1 3 s_.2.2.2.1,.slice s_.2.2.2.2.1 0 s_.2.2.2.2.2.1],.slice s_.2.2.2.2.2.2.1 1 s_.2.2.2.2.2.2.2.1,.int .i64 0]),(8,.pointer (some ⟨s_.2.2.2.2.2.2.2.2,0,none⟩)),(63,.tuple #[.agg #[.int .i64 1,.int .i64 3,.int .i64 0,.int .i64 0,.bool true,.int .i64 0,.slice s_.1 1 s_.2.1,.slice s_.2.2.1 3 s_.2.2.2.1,.slice s_.2.2.2.2.1 0 s_.2.2.2.2.2.1],.slice s_.2.2.2.2.2.2.1 1 s_.2.2.2.2.2.2.2.1,.int .i64 0]),(69,.agg #[.int .i64 1,.int .i64 3,.int .i64 0,.int .i64 0,.bool true,.int .i64 0,.slice s_.1 1 s_.2.1,.slice s_.2.2.1 3 s_.2.2.2.1,.slice s_.2.2.2.2.1 0 s_.2.2.2.2.2.1]),(70,.slice s_.2.2.2.2.2.2.1 1 s_.2.2.2.2.2.2.2.1),(71,.int .i64 0)]) (fun s_ w'=>(w'.cell? ⟨w2.heap.size,0,none⟩=some (.int .i64 1)∧w'.cell? ⟨w2.heap.size,1,none⟩=some (.int .i64 3)∧w'.cell? ⟨w2.heap.size,2,none⟩=some (.int .i64 0)∧w'.cell? ⟨w2.heap.size,3,none⟩=some (.int .i64 0)∧w'.cell? ⟨w2.heap.size,4,none⟩=some (.bool true)∧w'.cell? ⟨w2.heap.size,5,none⟩=some (.int .i64 0)∧w'.cell? ⟨w2.heap.size,6,none⟩=some (.slice b6 0 b6')∧w'.cell? ⟨w2.heap.size,7,none⟩=some (.slice b7 3 b7')∧w'.cell? ⟨w2.heap.size,8,none⟩=some (.slice b8 0 b8')∧w'.cell? ad3=some (.int .i64 1)∧w'.cell? ⟨ad3.block,ad3.off+1,none⟩=some (.int .i64 0)∧w'.cell? ⟨ad3.block,ad3.off+2,none⟩=some (.int .i64 1)∧w'.cell? ⟨ad3.block,ad3.off+3,none⟩=some (.int .i64 0)∧w'.cell? ⟨ad3.block,ad3.off+4,none⟩=some (.int .i64 0)∧w'.cell? ⟨ad3.block,ad3.off+5,none⟩=some (.int .i64 0)∧w'.cell? ⟨ad3.block,ad3.off+6,none⟩=some (.int .i64 0)∧w'.cell? ⟨ad3.block,ad3.off+7,none⟩=some (.slice zM 1 zm))∧(w'.heap[s_.2.2.2.2.2.2.2.2]?=some (.cells #[.int .i64 0,.int .i64 0,.int .i64 0,.int .i64 0,.bool false,.int .i64 0,.slice none 0 0,.slice none 0 0,.slice none 0 0] 26 (0,0)))∧(StaysBut w' s_.2.2.2.2.2.2.2.2 (fun W=>W.heap[w2.heap.size]?=some (.cells #[.int .i64 1,.int .i64 3,.int .i64 0,.int .i64 0,.bool true,.int .i64 0,.slice b6 0 b6',.slice b7 3 b7',.slice b8 0 b8'] 26 (0,0))∧W.heap[w3.heap.size]?=some (.cells #[.int .i64 0,.int .i64 3,.int .i64 0,.int .i64 0,.bool true,.int .i64 0,.slice c6 1 c6',.slice c7 3 c7',.slice c8 0 c8'] 26 (0,0))∧Arg W (⟨1,3,0,0,true,0,[],[0,0,0],[],[]⟩:Nod) b6 b7 b8 b6' b7' b8'∧Arg W (⟨0,3,0,0,true,0,[⟨#[97]⟩],[1,0,0],[],[⟨1,0,1,0,0,0,0,[⟨#[97]⟩]⟩,⟨1,0,2,0,0,0,0,[⟨#[97]⟩]⟩]⟩:Nod) c6 c7 c8 c6' c7' c8'∧Arg W (⟨1,3,0,0,true,0,[⟨#[97]⟩],[0,0,0],[],[⟨2,1,0,0,0,0,1,[]⟩]⟩:Nod) s_.1 s_.2.2.1 s_.2.2.2.2.1 s_.2.1 s_.2.2.2.1 s_.2.2.2.2.2.1∧Kd.C k28 W s_.2.2.2.2.2.2.1 1 [(⟨2,1,0,0,0,0,1,[]⟩:S28)]))∧(w0_6.heap.size≤s_.2.2.2.2.2.2.2.2)∧(Below w.heap.size w w')) ?_ ?_
 rotate_left
 ·intro hCont
  refine two_ (i:=4) (j:=9) (Ni:=some 68) (Nj:=some 8) #[true,true,true,true,true,false,false,false,false,false,false,false,false] #[true,true,true,true,false,false,false,false,false,true,false,false,false] rfl rfl rfl rfl (two_of HT_.out (by kernel_rfl)) (by decide) (by decide) (fun K hK=>?_) (fun K hK=>?_)
  ·skip
   refine goes_ Tryz.func10 (by kernel_rfl) rfl #[.agg #[.int .i64 1,.int .i64 3,.int .i64 0,.int .i64 0,.bool true,.int .i64 0,.slice b6 0 b6',.slice b7 3 b7',.slice b8 0 b8'],.agg #[.int .i64 1,.int .i64 0,.int .i64 1,.int .i64 0,.int .i64 0,.int .i64 0,.int .i64 0,.slice zM 1 zm]] (by rfl) rfl rfl (by (try simp only [List.map_toArray,List.map_cons,List.map_nil]);first | done | rfl) ?_
   with_reducible refine (w_handle1 _ _ _ _ _ _ _ zM zm (HS'.out.here).2.2.1 HZ'.out HZL.out).mono ?_
   rintro e w4 ⟨d6,d6',d7,d7',d8,d8',s6,s6',rfl,hA,h9,hC,hb,hKK⟩
   refine ⟨_,rfl,?_⟩
   have hS4:w4.cell? ⟨w2.heap.size,0,none⟩=some (.int .i64 1)∧w4.cell? ⟨w2.heap.size,1,none⟩=some (.int .i64 3)∧w4.cell? ⟨w2.heap.size,2,none⟩=some (.int .i64 0)∧w4.cell? ⟨w2.heap.size,3,none⟩=some (.int .i64 0)∧w4.cell? ⟨w2.heap.size,4,none⟩=some (.bool true)∧w4.cell? ⟨w2.heap.size,5,none⟩=some (.int .i64 0)∧w4.cell? ⟨w2.heap.size,6,none⟩=some (.slice b6 0 b6')∧w4.cell? ⟨w2.heap.size,7,none⟩=some (.slice b7 3 b7')∧w4.cell? ⟨w2.heap.size,8,none⟩=some (.slice b8 0 b8')∧w4.cell? ad3=some (.int .i64 1)∧w4.cell? ⟨ad3.block,ad3.off+1,none⟩=some (.int .i64 0)∧w4.cell? ⟨ad3.block,ad3.off+2,none⟩=some (.int .i64 1)∧w4.cell? ⟨ad3.block,ad3.off+3,none⟩=some (.int .i64 0)∧w4.cell? ⟨ad3.block,ad3.off+4,none⟩=some (.int .i64 0)∧w4.cell? ⟨ad3.block,ad3.off+5,none⟩=some (.int .i64 0)∧w4.cell? ⟨ad3.block,ad3.off+6,none⟩=some (.int .i64 0)∧w4.cell? ⟨ad3.block,ad3.off+7,none⟩=some (.slice zM 1 zm):=⟨(hb.cell (World.block_lt_of_cell? _ _ (hHeld.1))).trans (hHeld.1),(hb.cell (World.block_lt_of_cell? _ _ (hHeld.2.1))).trans (hHeld.2.1),(hb.cell (World.block_lt_of_cell? _ _ (hHeld.2.2.1))).trans (hHeld.2.2.1),(hb.cell (World.block_lt_of_cell? _ _ (hHeld.2.2.2.1))).trans (hHeld.2.2.2.1),(hb.cell (World.block_lt_of_cell? _ _ (hHeld.2.2.2.2.1))).trans (hHeld.2.2.2.2.1),(hb.cell (World.block_lt_of_cell? _ _ (hHeld.2.2.2.2.2.1))).trans (hHeld.2.2.2.2.2.1),(hb.cell (World.block_lt_of_cell? _ _ (hHeld.2.2.2.2.2.2.1))).trans (hHeld.2.2.2.2.2.2.1),(hb.cell (World.block_lt_of_cell? _ _ (hHeld.2.2.2.2.2.2.2.1))).trans (hHeld.2.2.2.2.2.2.2.1),(hb.cell (World.block_lt_of_cell? _ _ (hHeld.2.2.2.2.2.2.2.2.1))).trans (hHeld.2.2.2.2.2.2.2.2.1),(hb.cell (World.block_lt_of_cell? _ _ (hHeld.2.2.2.2.2.2.2.2.2.1))).trans (hHeld.2.2.2.2.2.2.2.2.2.1),(hb.cell (World.block_lt_of_cell? _ _ (hHeld.2.2.2.2.2.2.2.2.2.2.1))).trans (hHeld.2.2.2.2.2.2.2.2.2.2.1),(hb.cell (World.block_lt_of_cell? _ _ (hHeld.2.2.2.2.2.2.2.2.2.2.2.1))).trans (hHeld.2.2.2.2.2.2.2.2.2.2.2.1),(hb.cell (World.block_lt_of_cell? _ _ (hHeld.2.2.2.2.2.2.2.2.2.2.2.2.1))).trans (hHeld.2.2.2.2.2.2.2.2.2.2.2.2.1),(hb.cell (World.block_lt_of_cell? _ _ (hHeld.2.2.2.2.2.2.2.2.2.2.2.2.2.1))).trans (hHeld.2.2.2.2.2.2.2.2.2.2.2.2.2.1),(hb.cell (World.block_lt_of_cell? _ _ (hHeld.2.2.2.2.2.2.2.2.2.2.2.2.2.2.1))).trans (hHeld.2.2.2.2.2.2.2.2.2.2.2.2.2.2.1),(hb.cell (World.block_lt_of_cell? _ _ (hHeld.2.2.2.2.2.2.2.2.2.2.2.2.2.2.2.1))).trans (hHeld.2.2.2.2.2.2.2.2.2.2.2.2.2.2.2.1),(hb.cell (World.block_lt_of_cell? _ _ (hHeld.2.2.2.2.2.2.2.2.2.2.2.2.2.2.2.2))).trans (hHeld.2.2.2.2.2.2.2.2.2.2.2.2.2.2.2.2)⟩
   have HS4:=Aside0.mk ((HS'.out.below hb).and (Stays.of hKK))
   have HB4:=Aside0.mk (below_step HB'.out hb)
   have hz4:=hb.size
   clear hA h9 hC hb hKK hHeld
   refine hK.out _ _ hS4 (fun hHeld=>?_)
   clear hK K hS4
   refine norm_ (a':=?_) ?_ ?_
   rotate_left
   ·show Act.put _ (some 68) _=_
    simp only [Act.put,List.setIfInBounds_toArray,List.set_cons_zero,List.set_cons_succ,i64_w,i32_w]
    rfl
   refine pure_ (i:=5) (N:=some 63) (v:=?_) (a':=?_) #[true,true,true,true,true,true,false,false,false,false,false,false,false] rfl rfl (any_of HT_.out (by kernel_rfl)) (fun _ _ _ h=>h) (Or.inl ⟨by rfl,?_⟩) ?_ ?_
   rotate_left
   ·intro w'
    go_simp
    with_reducible rfl
   rotate_left
   ·simp only [Act.put,List.setIfInBounds_toArray,List.set_cons_zero,List.set_cons_succ,i64_w,i32_w]
    rfl
   refine pure_ (i:=6) (N:=some 69) (v:=?_) (a':=?_) #[true,true,true,true,true,true,true,false,false,false,false,false,false] rfl rfl (any_of HT_.out (by kernel_rfl)) (fun _ _ _ h=>h) (Or.inl ⟨by rfl,?_⟩) ?_ ?_
   rotate_left
   ·intro w'
    go_simp
    with_reducible rfl
   rotate_left
   ·simp only [Act.put,List.setIfInBounds_toArray,List.set_cons_zero,List.set_cons_succ,i64_w,i32_w]
    rfl
   refine pure_ (i:=7) (N:=some 70) (v:=?_) (a':=?_) #[true,true,true,true,true,true,true,true,false,false,false,false,false] rfl rfl (any_of HT_.out (by kernel_rfl)) (fun _ _ _ h=>h) (Or.inl ⟨by rfl,?_⟩) ?_ ?_
   rotate_left
   ·intro w'
    go_simp
    with_reducible rfl
   rotate_left
   ·simp only [Act.put,List.setIfInBounds_toArray,List.set_cons_zero,List.set_cons_succ,i64_w,i32_w]
    rfl
   refine pure_ (i:=8) (N:=some 71) (v:=?_) (a':=?_) #[true,true,true,true,true,true,true,true,true,false,false,false,false] rfl rfl (any_of HT_.out (by kernel_rfl)) (fun _ _ _ h=>h) (Or.inl ⟨by rfl,?_⟩) ?_ ?_
   rotate_left
   ·intro w'
    go_simp
    with_reducible rfl
   rotate_left
   ·simp only [Act.put,List.setIfInBounds_toArray,List.set_cons_zero,List.set_cons_succ,i64_w,i32_w]
    rfl
   refine one_ (i:=9) (N:=some 8) #[true,true,true,true,true,true,true,true,true,true,false,false,false] rfl rfl (one_of HT_.out (by kernel_rfl)) (by decide) (fun K hK=>?_)
   refine box_step ?hg (N:=8) ?hd (cs:=#[.int .i64 0,.int .i64 0,.int .i64 0,.int .i64 0,.bool false,.int .i64 0,.slice none 0 0,.slice none 0 0,.slice none 0 0]) (t:=26) ?hr ?_;(case hd=>rfl);(case hg=>rfl);(case hr=>first | (go_simp;done) | (go_simp;rfl))
   intro gd hg w5 hbox' hb
   have hS5:w5.cell? ⟨w2.heap.size,0,none⟩=some (.int .i64 1)∧w5.cell? ⟨w2.heap.size,1,none⟩=some (.int .i64 3)∧w5.cell? ⟨w2.heap.size,2,none⟩=some (.int .i64 0)∧w5.cell? ⟨w2.heap.size,3,none⟩=some (.int .i64 0)∧w5.cell? ⟨w2.heap.size,4,none⟩=some (.bool true)∧w5.cell? ⟨w2.heap.size,5,none⟩=some (.int .i64 0)∧w5.cell? ⟨w2.heap.size,6,none⟩=some (.slice b6 0 b6')∧w5.cell? ⟨w2.heap.size,7,none⟩=some (.slice b7 3 b7')∧w5.cell? ⟨w2.heap.size,8,none⟩=some (.slice b8 0 b8')∧w5.cell? ad3=some (.int .i64 1)∧w5.cell? ⟨ad3.block,ad3.off+1,none⟩=some (.int .i64 0)∧w5.cell? ⟨ad3.block,ad3.off+2,none⟩=some (.int .i64 1)∧w5.cell? ⟨ad3.block,ad3.off+3,none⟩=some (.int .i64 0)∧w5.cell? ⟨ad3.block,ad3.off+4,none⟩=some (.int .i64 0)∧w5.cell? ⟨ad3.block,ad3.off+5,none⟩=some (.int .i64 0)∧w5.cell? ⟨ad3.block,ad3.off+6,none⟩=some (.int .i64 0)∧w5.cell? ⟨ad3.block,ad3.off+7,none⟩=some (.slice zM 1 zm):=⟨(hb.cell (World.block_lt_of_cell? _ _ (hHeld.1))).trans (hHeld.1),(hb.cell (World.block_lt_of_cell? _ _ (hHeld.2.1))).trans (hHeld.2.1),(hb.cell (World.block_lt_of_cell? _ _ (hHeld.2.2.1))).trans (hHeld.2.2.1),(hb.cell (World.block_lt_of_cell? _ _ (hHeld.2.2.2.1))).trans (hHeld.2.2.2.1),(hb.cell (World.block_lt_of_cell? _ _ (hHeld.2.2.2.2.1))).trans (hHeld.2.2.2.2.1),(hb.cell (World.block_lt_of_cell? _ _ (hHeld.2.2.2.2.2.1))).trans (hHeld.2.2.2.2.2.1),(hb.cell (World.block_lt_of_cell? _ _ (hHeld.2.2.2.2.2.2.1))).trans (hHeld.2.2.2.2.2.2.1),(hb.cell (World.block_lt_of_cell? _ _ (hHeld.2.2.2.2.2.2.2.1))).trans (hHeld.2.2.2.2.2.2.2.1),(hb.cell (World.block_lt_of_cell? _ _ (hHeld.2.2.2.2.2.2.2.2.1))).trans (hHeld.2.2.2.2.2.2.2.2.1),(hb.cell (World.block_lt_of_cell? _ _ (hHeld.2.2.2.2.2.2.2.2.2.1))).trans (hHeld.2.2.2.2.2.2.2.2.2.1),(hb.cell (World.block_lt_of_cell? _ _ (hHeld.2.2.2.2.2.2.2.2.2.2.1))).trans (hHeld.2.2.2.2.2.2.2.2.2.2.1),(hb.cell (World.block_lt_of_cell? _ _ (hHeld.2.2.2.2.2.2.2.2.2.2.2.1))).trans (hHeld.2.2.2.2.2.2.2.2.2.2.2.1),(hb.cell (World.block_lt_of_cell? _ _ (hHeld.2.2.2.2.2.2.2.2.2.2.2.2.1))).trans (hHeld.2.2.2.2.2.2.2.2.2.2.2.2.1),(hb.cell (World.block_lt_of_cell? _ _ (hHeld.2.2.2.2.2.2.2.2.2.2.2.2.2.1))).trans (hHeld.2.2.2.2.2.2.2.2.2.2.2.2.2.1),(hb.cell (World.block_lt_of_cell? _ _ (hHeld.2.2.2.2.2.2.2.2.2.2.2.2.2.2.1))).trans (hHeld.2.2.2.2.2.2.2.2.2.2.2.2.2.2.1),(hb.cell (World.block_lt_of_cell? _ _ (hHeld.2.2.2.2.2.2.2.2.2.2.2.2.2.2.2.1))).trans (hHeld.2.2.2.2.2.2.2.2.2.2.2.2.2.2.2.1),(hb.cell (World.block_lt_of_cell? _ _ (hHeld.2.2.2.2.2.2.2.2.2.2.2.2.2.2.2.2))).trans (hHeld.2.2.2.2.2.2.2.2.2.2.2.2.2.2.2.2)⟩
   have HF5:=HS4.out.but_new hg hb
   have HB5:=below_step HB4.out hb
   have hz5:w0_6.heap.size≤gd:=by rw [hg];exact hz4
   refine hK.out _ _ hS5 (fun hHeld=>?_)
   clear hK K hS5
   refine norm_ (a':=?_) ?_ ?_
   rotate_left
   ·show Act.put _ (some 8) _=_
    simp only [Act.put,List.setIfInBounds_toArray,List.set_cons_zero,List.set_cons_succ,i64_w,i32_w]
    rfl
   exact norm_ (by simp only [putAll,Act.put,List.setIfInBounds_toArray,List.set_cons_zero,List.set_cons_succ]) (hCont (d6,d6',d7,d7',d8,d8',s6,s6',gd) _ ⟨hHeld,hbox',HF5.mono (fun W' h=>⟨h.1.1,h.1.2.1,h.1.2.2.1,h.1.2.2.2,h.2.1,h.2.2⟩),hz5,HB5⟩)
  ·skip
   refine box_step ?hg (N:=8) ?hd (cs:=#[.int .i64 0,.int .i64 0,.int .i64 0,.int .i64 0,.bool false,.int .i64 0,.slice none 0 0,.slice none 0 0,.slice none 0 0]) (t:=26) ?hr ?_;(case hd=>rfl);(case hg=>rfl);(case hr=>first | (go_simp;done) | (go_simp;rfl))
   intro gd hg w4 hbox hb4
   have hS4:w4.cell? ⟨w2.heap.size,0,none⟩=some (.int .i64 1)∧w4.cell? ⟨w2.heap.size,1,none⟩=some (.int .i64 3)∧w4.cell? ⟨w2.heap.size,2,none⟩=some (.int .i64 0)∧w4.cell? ⟨w2.heap.size,3,none⟩=some (.int .i64 0)∧w4.cell? ⟨w2.heap.size,4,none⟩=some (.bool true)∧w4.cell? ⟨w2.heap.size,5,none⟩=some (.int .i64 0)∧w4.cell? ⟨w2.heap.size,6,none⟩=some (.slice b6 0 b6')∧w4.cell? ⟨w2.heap.size,7,none⟩=some (.slice b7 3 b7')∧w4.cell? ⟨w2.heap.size,8,none⟩=some (.slice b8 0 b8')∧w4.cell? ad3=some (.int .i64 1)∧w4.cell? ⟨ad3.block,ad3.off+1,none⟩=some (.int .i64 0)∧w4.cell? ⟨ad3.block,ad3.off+2,none⟩=some (.int .i64 1)∧w4.cell? ⟨ad3.block,ad3.off+3,none⟩=some (.int .i64 0)∧w4.cell? ⟨ad3.block,ad3.off+4,none⟩=some (.int .i64 0)∧w4.cell? ⟨ad3.block,ad3.off+5,none⟩=some (.int .i64 0)∧w4.cell? ⟨ad3.block,ad3.off+6,none⟩=some (.int .i64 0)∧w4.cell? ⟨ad3.block,ad3.off+7,none⟩=some (.slice zM 1 zm):=⟨(hb4.cell (World.block_lt_of_cell? _ _ (hHeld.1))).trans (hHeld.1),(hb4.cell (World.block_lt_of_cell? _ _ (hHeld.2.1))).trans (hHeld.2.1),(hb4.cell (World.block_lt_of_cell? _ _ (hHeld.2.2.1))).trans (hHeld.2.2.1),(hb4.cell (World.block_lt_of_cell? _ _ (hHeld.2.2.2.1))).trans (hHeld.2.2.2.1),(hb4.cell (World.block_lt_of_cell? _ _ (hHeld.2.2.2.2.1))).trans (hHeld.2.2.2.2.1),(hb4.cell (World.block_lt_of_cell? _ _ (hHeld.2.2.2.2.2.1))).trans (hHeld.2.2.2.2.2.1),(hb4.cell (World.block_lt_of_cell? _ _ (hHeld.2.2.2.2.2.2.1))).trans (hHeld.2.2.2.2.2.2.1),(hb4.cell (World.block_lt_of_cell? _ _ (hHeld.2.2.2.2.2.2.2.1))).trans (hHeld.2.2.2.2.2.2.2.1),(hb4.cell (World.block_lt_of_cell? _ _ (hHeld.2.2.2.2.2.2.2.2.1))).trans (hHeld.2.2.2.2.2.2.2.2.1),(hb4.cell (World.block_lt_of_cell? _ _ (hHeld.2.2.2.2.2.2.2.2.2.1))).trans (hHeld.2.2.2.2.2.2.2.2.2.1),(hb4.cell (World.block_lt_of_cell? _ _ (hHeld.2.2.2.2.2.2.2.2.2.2.1))).trans (hHeld.2.2.2.2.2.2.2.2.2.2.1),(hb4.cell (World.block_lt_of_cell? _ _ (hHeld.2.2.2.2.2.2.2.2.2.2.2.1))).trans (hHeld.2.2.2.2.2.2.2.2.2.2.2.1),(hb4.cell (World.block_lt_of_cell? _ _ (hHeld.2.2.2.2.2.2.2.2.2.2.2.2.1))).trans (hHeld.2.2.2.2.2.2.2.2.2.2.2.2.1),(hb4.cell (World.block_lt_of_cell? _ _ (hHeld.2.2.2.2.2.2.2.2.2.2.2.2.2.1))).trans (hHeld.2.2.2.2.2.2.2.2.2.2.2.2.2.1),(hb4.cell (World.block_lt_of_cell? _ _ (hHeld.2.2.2.2.2.2.2.2.2.2.2.2.2.2.1))).trans (hHeld.2.2.2.2.2.2.2.2.2.2.2.2.2.2.1),(hb4.cell (World.block_lt_of_cell? _ _ (hHeld.2.2.2.2.2.2.2.2.2.2.2.2.2.2.2.1))).trans (hHeld.2.2.2.2.2.2.2.2.2.2.2.2.2.2.2.1),(hb4.cell (World.block_lt_of_cell? _ _ (hHeld.2.2.2.2.2.2.2.2.2.2.2.2.2.2.2.2))).trans (hHeld.2.2.2.2.2.2.2.2.2.2.2.2.2.2.2.2)⟩
   have HF4:=HS'.out.but_new hg hb4
   have HB4:=Aside0.mk (below_step HB'.out hb4)
   have hz5:w0_6.heap.size≤gd:=Nat.le_of_eq hg.symm
   have hz6:gd < w4.heap.size:=blk_lt hbox
   refine hK.out _ _ hS4 (fun hHeld=>?_)
   clear hK K hS4
   refine norm_ (a':=?_) ?_ ?_
   rotate_left
   ·show Act.put _ (some 8) _=_
    simp only [Act.put,List.setIfInBounds_toArray,List.set_cons_zero,List.set_cons_succ,i64_w,i32_w]
    rfl
   refine one_ (i:=4) (N:=some 68) #[true,true,true,true,true,false,false,false,false,true,false,false,false] rfl rfl (one_of HT_.out (by kernel_rfl)) (by decide) (fun K hK=>?_)
   refine goes_ Tryz.func10 (by kernel_rfl) rfl #[.agg #[.int .i64 1,.int .i64 3,.int .i64 0,.int .i64 0,.bool true,.int .i64 0,.slice b6 0 b6',.slice b7 3 b7',.slice b8 0 b8'],.agg #[.int .i64 1,.int .i64 0,.int .i64 1,.int .i64 0,.int .i64 0,.int .i64 0,.int .i64 0,.slice zM 1 zm]] (by rfl) rfl rfl (by (try simp only [List.map_toArray,List.map_cons,List.map_nil]);first | done | rfl) ?_
   with_reducible refine (w_handle1 _ _ _ _ _ _ _ zM zm (HF4.here).2.2.1 (Kd.C_below HZ'.out hb4) HZL.out).mono ?_
   rintro e w5 ⟨d6,d6',d7,d7',d8,d8',s6,s6',rfl,hA,h9,hC,hb,hKK⟩
   refine ⟨_,rfl,?_⟩
   have hS5:w5.cell? ⟨w2.heap.size,0,none⟩=some (.int .i64 1)∧w5.cell? ⟨w2.heap.size,1,none⟩=some (.int .i64 3)∧w5.cell? ⟨w2.heap.size,2,none⟩=some (.int .i64 0)∧w5.cell? ⟨w2.heap.size,3,none⟩=some (.int .i64 0)∧w5.cell? ⟨w2.heap.size,4,none⟩=some (.bool true)∧w5.cell? ⟨w2.heap.size,5,none⟩=some (.int .i64 0)∧w5.cell? ⟨w2.heap.size,6,none⟩=some (.slice b6 0 b6')∧w5.cell? ⟨w2.heap.size,7,none⟩=some (.slice b7 3 b7')∧w5.cell? ⟨w2.heap.size,8,none⟩=some (.slice b8 0 b8')∧w5.cell? ad3=some (.int .i64 1)∧w5.cell? ⟨ad3.block,ad3.off+1,none⟩=some (.int .i64 0)∧w5.cell? ⟨ad3.block,ad3.off+2,none⟩=some (.int .i64 1)∧w5.cell? ⟨ad3.block,ad3.off+3,none⟩=some (.int .i64 0)∧w5.cell? ⟨ad3.block,ad3.off+4,none⟩=some (.int .i64 0)∧w5.cell? ⟨ad3.block,ad3.off+5,none⟩=some (.int .i64 0)∧w5.cell? ⟨ad3.block,ad3.off+6,none⟩=some (.int .i64 0)∧w5.cell? ⟨ad3.block,ad3.off+7,none⟩=some (.slice zM 1 zm):=⟨(hb.cell (World.block_lt_of_cell? _ _ (hHeld.1))).trans (hHeld.1),(hb.cell (World.block_lt_of_cell? _ _ (hHeld.2.1))).trans (hHeld.2.1),(hb.cell (World.block_lt_of_cell? _ _ (hHeld.2.2.1))).trans (hHeld.2.2.1),(hb.cell (World.block_lt_of_cell? _ _ (hHeld.2.2.2.1))).trans (hHeld.2.2.2.1),(hb.cell (World.block_lt_of_cell? _ _ (hHeld.2.2.2.2.1))).trans (hHeld.2.2.2.2.1),(hb.cell (World.block_lt_of_cell? _ _ (hHeld.2.2.2.2.2.1))).trans (hHeld.2.2.2.2.2.1),(hb.cell (World.block_lt_of_cell? _ _ (hHeld.2.2.2.2.2.2.1))).trans (hHeld.2.2.2.2.2.2.1),(hb.cell (World.block_lt_of_cell? _ _ (hHeld.2.2.2.2.2.2.2.1))).trans (hHeld.2.2.2.2.2.2.2.1),(hb.cell (World.block_lt_of_cell? _ _ (hHeld.2.2.2.2.2.2.2.2.1))).trans (hHeld.2.2.2.2.2.2.2.2.1),(hb.cell (World.block_lt_of_cell? _ _ (hHeld.2.2.2.2.2.2.2.2.2.1))).trans (hHeld.2.2.2.2.2.2.2.2.2.1),(hb.cell (World.block_lt_of_cell? _ _ (hHeld.2.2.2.2.2.2.2.2.2.2.1))).trans (hHeld.2.2.2.2.2.2.2.2.2.2.1),(hb.cell (World.block_lt_of_cell? _ _ (hHeld.2.2.2.2.2.2.2.2.2.2.2.1))).trans (hHeld.2.2.2.2.2.2.2.2.2.2.2.1),(hb.cell (World.block_lt_of_cell? _ _ (hHeld.2.2.2.2.2.2.2.2.2.2.2.2.1))).trans (hHeld.2.2.2.2.2.2.2.2.2.2.2.2.1),(hb.cell (World.block_lt_of_cell? _ _ (hHeld.2.2.2.2.2.2.2.2.2.2.2.2.2.1))).trans (hHeld.2.2.2.2.2.2.2.2.2.2.2.2.2.1),(hb.cell (World.block_lt_of_cell? _ _ (hHeld.2.2.2.2.2.2.2.2.2.2.2.2.2.2.1))).trans (hHeld.2.2.2.2.2.2.2.2.2.2.2.2.2.2.1),(hb.cell (World.block_lt_of_cell? _ _ (hHeld.2.2.2.2.2.2.2.2.2.2.2.2.2.2.2.1))).trans (hHeld.2.2.2.2.2.2.2.2.2.2.2.2.2.2.2.1),(hb.cell (World.block_lt_of_cell? _ _ (hHeld.2.2.2.2.2.2.2.2.2.2.2.2.2.2.2.2))).trans (hHeld.2.2.2.2.2.2.2.2.2.2.2.2.2.2.2.2)⟩
   have HF5:=(HF4.below hb).and (StaysBut.of hKK hz6)
   have HB5:=below_step HB4.out hb
   have hbox':=blk_below hbox hb
   clear hA h9 hC hKK hHeld
   refine hK.out _ _ hS5 (fun hHeld=>?_)
   clear hK K hS5
   refine norm_ (a':=?_) ?_ ?_
   rotate_left
   ·show Act.put _ (some 68) _=_
    simp only [Act.put,List.setIfInBounds_toArray,List.set_cons_zero,List.set_cons_succ,i64_w,i32_w]
    rfl
   refine pure_ (i:=5) (N:=some 63) (v:=?_) (a':=?_) #[true,true,true,true,true,true,false,false,false,true,false,false,false] rfl rfl (any_of HT_.out (by kernel_rfl)) (fun _ _ _ h=>h) (Or.inl ⟨by rfl,?_⟩) ?_ ?_
   rotate_left
   ·intro w'
    go_simp
    with_reducible rfl
   rotate_left
   ·simp only [Act.put,List.setIfInBounds_toArray,List.set_cons_zero,List.set_cons_succ,i64_w,i32_w]
    rfl
   refine pure_ (i:=6) (N:=some 69) (v:=?_) (a':=?_) #[true,true,true,true,true,true,true,false,false,true,false,false,false] rfl rfl (any_of HT_.out (by kernel_rfl)) (fun _ _ _ h=>h) (Or.inl ⟨by rfl,?_⟩) ?_ ?_
   rotate_left
   ·intro w'
    go_simp
    with_reducible rfl
   rotate_left
   ·simp only [Act.put,List.setIfInBounds_toArray,List.set_cons_zero,List.set_cons_succ,i64_w,i32_w]
    rfl
   refine pure_ (i:=7) (N:=some 70) (v:=?_) (a':=?_) #[true,true,true,true,true,true,true,true,false,true,false,false,false] rfl rfl (any_of HT_.out (by kernel_rfl)) (fun _ _ _ h=>h) (Or.inl ⟨by rfl,?_⟩) ?_ ?_
   rotate_left
   ·intro w'
    go_simp
    with_reducible rfl
   rotate_left
   ·simp only [Act.put,List.setIfInBounds_toArray,List.set_cons_zero,List.set_cons_succ,i64_w,i32_w]
    rfl
   refine pure_ (i:=8) (N:=some 71) (v:=?_) (a':=?_) #[true,true,true,true,true,true,true,true,true,true,false,false,false] rfl rfl (any_of HT_.out (by kernel_rfl)) (fun _ _ _ h=>h) (Or.inl ⟨by rfl,?_⟩) ?_ ?_
   rotate_left
   ·intro w'
    go_simp
    with_reducible rfl
   rotate_left
   ·simp only [Act.put,List.setIfInBounds_toArray,List.set_cons_zero,List.set_cons_succ,i64_w,i32_w]
    rfl
   exact norm_ (by simp only [putAll,Act.put,List.setIfInBounds_toArray,List.set_cons_zero,List.set_cons_succ]) (hCont (d6,d6',d7,d7',d8,d8',s6,s6',gd) _ ⟨hHeld,hbox',HF5.mono (fun W' h=>⟨h.1.1,h.1.2.1,h.1.2.2.1,h.1.2.2.2,h.2.1,h.2.2⟩),hz5,HB5⟩)
 rintro ⟨d6,d6',d7,d7',d8,d8',s6,s6',gd⟩ w5 ⟨hHeld,hbox,HF5,hz5,HB5⟩
 clear HS' HB' HZ'
 replace hz5:w0_6.heap.size≤gd:=hz5
 replace hbox:w5.heap[gd]?=some (.cells #[.int .i64 0,.int .i64 0,.int .i64 0,.int .i64 0,.bool false,.int .i64 0,.slice none 0 0,.slice none 0 0,.slice none 0 0] 26 (0,0)):=hbox
 replace HF5:StaysBut w5 gd (fun W=>W.heap[w2.heap.size]?=some (.cells #[.int .i64 1,.int .i64 3,.int .i64 0,.int .i64 0,.bool true,.int .i64 0,.slice b6 0 b6',.slice b7 3 b7',.slice b8 0 b8'] 26 (0,0))∧W.heap[w3.heap.size]?=some (.cells #[.int .i64 0,.int .i64 3,.int .i64 0,.int .i64 0,.bool true,.int .i64 0,.slice c6 1 c6',.slice c7 3 c7',.slice c8 0 c8'] 26 (0,0))∧Arg W (⟨1,3,0,0,true,0,[],[0,0,0],[],[]⟩:Nod) b6 b7 b8 b6' b7' b8'∧Arg W (⟨0,3,0,0,true,0,[⟨#[97]⟩],[1,0,0],[],[⟨1,0,1,0,0,0,0,[⟨#[97]⟩]⟩,⟨1,0,2,0,0,0,0,[⟨#[97]⟩]⟩]⟩:Nod) c6 c7 c8 c6' c7' c8'∧Arg W (⟨1,3,0,0,true,0,[⟨#[97]⟩],[0,0,0],[],[⟨2,1,0,0,0,0,1,[]⟩]⟩:Nod) d6 d7 d8 d6' d7' d8'∧Kd.C k28 W s6 1 [(⟨2,1,0,0,0,0,1,[]⟩:S28)]):=HF5
 refine norm_ (a':=?_) ?_ ?_
 rotate_left
 ·simp only [putAll,Act.put,List.setIfInBounds_toArray,List.set_cons_zero,List.set_cons_succ]
  rfl
 refine one_ (i:=10) (N:=none) #[true,true,true,true,true,true,true,true,true,true,true,false,false] rfl rfl (one_of HT_.out (by kernel_rfl)) (by decide) (fun K hK=>?_)
 have hs0:w5.cell? ⟨gd,0,none⟩=some (.int .i64 0):=(blk_cell hbox 0).trans rfl
 have hf0:=blk_frozen hbox 0
 have hs1:w5.cell? ⟨gd,1,none⟩=some (.int .i64 0):=(blk_cell hbox 1).trans rfl
 have hf1:=blk_frozen hbox 1
 have hs2:w5.cell? ⟨gd,2,none⟩=some (.int .i64 0):=(blk_cell hbox 2).trans rfl
 have hf2:=blk_frozen hbox 2
 have hs3:w5.cell? ⟨gd,3,none⟩=some (.int .i64 0):=(blk_cell hbox 3).trans rfl
 have hf3:=blk_frozen hbox 3
 have hs4:w5.cell? ⟨gd,4,none⟩=some (.bool false):=(blk_cell hbox 4).trans rfl
 have hf4:=blk_frozen hbox 4
 have hs5:w5.cell? ⟨gd,5,none⟩=some (.int .i64 0):=(blk_cell hbox 5).trans rfl
 have hf5:=blk_frozen hbox 5
 have hs6:w5.cell? ⟨gd,6,none⟩=some (.slice none 0 0):=(blk_cell hbox 6).trans rfl
 have hf6:=blk_frozen hbox 6
 have hs7:w5.cell? ⟨gd,7,none⟩=some (.slice none 0 0):=(blk_cell hbox 7).trans rfl
 have hf7:=blk_frozen hbox 7
 have hs8:w5.cell? ⟨gd,8,none⟩=some (.slice none 0 0):=(blk_cell hbox 8).trans rfl
 have hf8:=blk_frozen hbox 8
 refine skip_ (w1:=?_) (by rfl) rfl ?_ ?_
 rotate_left
 ·go_simp
  rfl
 have hP:=put9 hbox (.int .i64 1) (.int .i64 3) (.int .i64 0) (.int .i64 0) (.bool true) (.int .i64 0) (.slice d6 1 d6') (.slice d7 3 d7') (.slice d8 0 d8')
 refine hK.out _ _ ⟨(World.cell?_of_block (w:=w5) (hP.2 _ (by show w2.heap.size≠gd;omega))).trans (hHeld.1),(World.cell?_of_block (w:=w5) (hP.2 _ (by show w2.heap.size≠gd;omega))).trans (hHeld.2.1),(World.cell?_of_block (w:=w5) (hP.2 _ (by show w2.heap.size≠gd;omega))).trans (hHeld.2.2.1),(World.cell?_of_block (w:=w5) (hP.2 _ (by show w2.heap.size≠gd;omega))).trans (hHeld.2.2.2.1),(World.cell?_of_block (w:=w5) (hP.2 _ (by show w2.heap.size≠gd;omega))).trans (hHeld.2.2.2.2.1),(World.cell?_of_block (w:=w5) (hP.2 _ (by show w2.heap.size≠gd;omega))).trans (hHeld.2.2.2.2.2.1),(World.cell?_of_block (w:=w5) (hP.2 _ (by show w2.heap.size≠gd;omega))).trans (hHeld.2.2.2.2.2.2.1),(World.cell?_of_block (w:=w5) (hP.2 _ (by show w2.heap.size≠gd;omega))).trans (hHeld.2.2.2.2.2.2.2.1),(World.cell?_of_block (w:=w5) (hP.2 _ (by show w2.heap.size≠gd;omega))).trans (hHeld.2.2.2.2.2.2.2.2.1),(World.cell?_of_block (w:=w5) (hP.2 _ (by show ad3.block≠gd;omega))).trans (hHeld.2.2.2.2.2.2.2.2.2.1),(World.cell?_of_block (w:=w5) (hP.2 _ (by show ad3.block≠gd;omega))).trans (hHeld.2.2.2.2.2.2.2.2.2.2.1),(World.cell?_of_block (w:=w5) (hP.2 _ (by show ad3.block≠gd;omega))).trans (hHeld.2.2.2.2.2.2.2.2.2.2.2.1),(World.cell?_of_block (w:=w5) (hP.2 _ (by show ad3.block≠gd;omega))).trans (hHeld.2.2.2.2.2.2.2.2.2.2.2.2.1),(World.cell?_of_block (w:=w5) (hP.2 _ (by show ad3.block≠gd;omega))).trans (hHeld.2.2.2.2.2.2.2.2.2.2.2.2.2.1),(World.cell?_of_block (w:=w5) (hP.2 _ (by show ad3.block≠gd;omega))).trans (hHeld.2.2.2.2.2.2.2.2.2.2.2.2.2.2.1),(World.cell?_of_block (w:=w5) (hP.2 _ (by show ad3.block≠gd;omega))).trans (hHeld.2.2.2.2.2.2.2.2.2.2.2.2.2.2.2.1),(World.cell?_of_block (w:=w5) (hP.2 _ (by show ad3.block≠gd;omega))).trans (hHeld.2.2.2.2.2.2.2.2.2.2.2.2.2.2.2.2)⟩ (fun _=>?_)
 clear hK K
 have HS:=Aside0.mk (HF5.put (W1:=(((((((((w5.setCell ⟨gd,0,none⟩ (.int .i64 1)).setCell ⟨gd,1,none⟩ (.int .i64 3)).setCell ⟨gd,2,none⟩ (.int .i64 0)).setCell ⟨gd,3,none⟩ (.int .i64 0)).setCell ⟨gd,4,none⟩ (.bool true)).setCell ⟨gd,5,none⟩ (.int .i64 0)).setCell ⟨gd,6,none⟩ (.slice d6 1 d6')).setCell ⟨gd,7,none⟩ (.slice d7 3 d7')).setCell ⟨gd,8,none⟩ (.slice d8 0 d8'))) (by simp [World.setCell]) hP.1 hP.2)
 have HB:=Aside0.mk (put9_below HB5 (g:=gd) (by have:=HB0.out;omega) (.int .i64 1) (.int .i64 3) (.int .i64 0) (.int .i64 0) (.bool true) (.int .i64 0) (.slice d6 1 d6') (.slice d7 3 d7') (.slice d8 0 d8'))
 clear hP HF5 HB5 hbox hHeld hz5 hgin' had' hs0 hf0 hs1 hf1 hs2 hf2 hs3 hf3 hs4 hf4 hs5 hf5 hs6 hf6 hs7 hf7 hs8 hf8
 generalize (((((((((w5.setCell ⟨gd,0,none⟩ (.int .i64 1)).setCell ⟨gd,1,none⟩ (.int .i64 3)).setCell ⟨gd,2,none⟩ (.int .i64 0)).setCell ⟨gd,3,none⟩ (.int .i64 0)).setCell ⟨gd,4,none⟩ (.bool true)).setCell ⟨gd,5,none⟩ (.int .i64 0)).setCell ⟨gd,6,none⟩ (.slice d6 1 d6')).setCell ⟨gd,7,none⟩ (.slice d7 3 d7')).setCell ⟨gd,8,none⟩ (.slice d8 0 d8'))=wd at HS HB ⊢
 refine pure_ (i:=11) (N:=some 9) (v:=?_) (a':=?_) #[true,true,true,true,true,true,true,true,true,true,true,true,false] rfl rfl (any_of HT_.out (by kernel_rfl)) (fun _ _ _ h=>h) (Or.inl ⟨by rfl,?_⟩) ?_ ?_
 rotate_left
 ·intro w'
  go_simp
  with_reducible rfl
 rotate_left
 ·simp only [Act.put,List.setIfInBounds_toArray,List.set_cons_zero,List.set_cons_succ,i64_w,i32_w]
  rfl
 refine pure_ (i:=12) (N:=some 10) (v:=?_) (a':=?_) #[true,true,true,true,true,true,true,true,true,true,true,true,true] rfl rfl (any_of HT_.out (by kernel_rfl)) (fun _ _ _ h=>h) (Or.inl ⟨by rfl,?_⟩) ?_ ?_
 rotate_left
 ·intro w'
  go_simp
  with_reducible rfl
 rotate_left
 ·simp only [Act.put,List.setIfInBounds_toArray,List.set_cons_zero,List.set_cons_succ,i64_w,i32_w]
  rfl
 refine done_ (done_of HT_.out (by kernel_rfl)) ?_
 clear HT_ HW_
 clear HZL HB0
 have q0:wd.cell? ⟨w3.heap.size,0,none⟩=some (.int .i64 0):=blk_cell HS.out.here.2.2.1 0
 have q1:wd.cell? ⟨w3.heap.size,1,none⟩=some (.int .i64 3):=blk_cell HS.out.here.2.2.1 1
 have q2:wd.cell? ⟨w3.heap.size,2,none⟩=some (.int .i64 0):=blk_cell HS.out.here.2.2.1 2
 have q3:wd.cell? ⟨w3.heap.size,3,none⟩=some (.int .i64 0):=blk_cell HS.out.here.2.2.1 3
 have q4:wd.cell? ⟨w3.heap.size,4,none⟩=some (.bool true):=blk_cell HS.out.here.2.2.1 4
 have q5:wd.cell? ⟨w3.heap.size,5,none⟩=some (.int .i64 0):=blk_cell HS.out.here.2.2.1 5
 have q6:wd.cell? ⟨w3.heap.size,6,none⟩=some (.slice c6 1 c6'):=blk_cell HS.out.here.2.2.1 6
 have q7:wd.cell? ⟨w3.heap.size,7,none⟩=some (.slice c7 3 c7'):=blk_cell HS.out.here.2.2.1 7
 have q8:wd.cell? ⟨w3.heap.size,8,none⟩=some (.slice c8 0 c8'):=blk_cell HS.out.here.2.2.1 8
 obtain ⟨ad6,yM,ym,ze,z0,z1,z2,z3,z4,z5,z6,z7,zl,zh⟩:=at_T28 HS.out.here.2.2.2.2.2.2 0 (by decide) (by decide)
 cases ze
 simp only [show (0:Int).toNat=0 from rfl,Nat.zero_mul,Nat.one_mul] at z0 z1 z2 z3 z4 z5 z6 z7
 change _=some (Value.int .i64 2) at z0
 change _=some (Value.int .i64 1) at z1
 change _=some (Value.int .i64 0) at z2
 change _=some (Value.int .i64 0) at z3
 change _=some (Value.int .i64 0) at z4
 change _=some (Value.int .i64 0) at z5
 change _=some (Value.int .i64 1) at z6
 change _=some (Value.slice yM 0 ym) at z7
 rw [show ad6.add 0=ad6 from rfl] at z0 z1 z2 z3 z4 z5 z6 z7
 have HZ:=Aside0.mk (show Kd.C Kd.string wd yM 0 [] from zh)
 have HZL:=Aside0.mk (show 0≤ym from zl)
 clear zh zl
 replace HS:=Aside0.mk (show Stays wd (fun W=>W.heap[w2.heap.size]?=some (.cells #[.int .i64 1,.int .i64 3,.int .i64 0,.int .i64 0,.bool true,.int .i64 0,.slice b6 0 b6',.slice b7 3 b7',.slice b8 0 b8'] 26 (0,0))∧W.heap[gd]?=some (.cells #[.int .i64 1,.int .i64 3,.int .i64 0,.int .i64 0,.bool true,.int .i64 0,.slice d6 1 d6',.slice d7 3 d7',.slice d8 0 d8'] 26 (0,0))∧Arg W (⟨1,3,0,0,true,0,[],[0,0,0],[],[]⟩:Nod) b6 b7 b8 b6' b7' b8'∧Arg W (⟨1,3,0,0,true,0,[⟨#[97]⟩],[0,0,0],[],[⟨2,1,0,0,0,0,1,[]⟩]⟩:Nod) d6 d7 d8 d6' d7' d8'∧Arg W (⟨0,3,0,0,true,0,[⟨#[97]⟩],[1,0,0],[],[⟨1,0,1,0,0,0,0,[⟨#[97]⟩]⟩,⟨1,0,2,0,0,0,0,[⟨#[97]⟩]⟩]⟩:Nod) c6 c7 c8 c6' c7' c8') from HS.out.mono (fun W' h=>⟨h.2.1,h.1,h.2.2.2.1,h.2.2.2.2.2.1,h.2.2.2.2.1⟩))
 go_wp2_with (fail)
 refine start_ (n:=13) (S:=fun w'=>w'.cell? ⟨w3.heap.size,0,none⟩=some (.int .i64 0)∧w'.cell? ⟨w3.heap.size,1,none⟩=some (.int .i64 3)∧w'.cell? ⟨w3.heap.size,2,none⟩=some (.int .i64 0)∧w'.cell? ⟨w3.heap.size,3,none⟩=some (.int .i64 0)∧w'.cell? ⟨w3.heap.size,4,none⟩=some (.bool true)∧w'.cell? ⟨w3.heap.size,5,none⟩=some (.int .i64 0)∧w'.cell? ⟨w3.heap.size,6,none⟩=some (.slice c6 1 c6')∧w'.cell? ⟨w3.heap.size,7,none⟩=some (.slice c7 3 c7')∧w'.cell? ⟨w3.heap.size,8,none⟩=some (.slice c8 0 c8')∧w'.cell? ad6=some (.int .i64 2)∧w'.cell? ⟨ad6.block,ad6.off+1,none⟩=some (.int .i64 1)∧w'.cell? ⟨ad6.block,ad6.off+2,none⟩=some (.int .i64 0)∧w'.cell? ⟨ad6.block,ad6.off+3,none⟩=some (.int .i64 0)∧w'.cell? ⟨ad6.block,ad6.off+4,none⟩=some (.int .i64 0)∧w'.cell? ⟨ad6.block,ad6.off+5,none⟩=some (.int .i64 0)∧w'.cell? ⟨ad6.block,ad6.off+6,none⟩=some (.int .i64 1)∧w'.cell? ⟨ad6.block,ad6.off+7,none⟩=some (.slice yM 0 ym)) (ds:=[]) #[false,false,false,false,false,false,false,false,false,false,false,false,false] (by kernel_rfl) rfl rfl ⟨q0,q1,q2,q3,q4,q5,q6,q7,q8,z0,z1,z2,z3,z4,z5,z6,z7⟩ (fun hHeld=>?_)
 refine with_tabW wk_tab9 wk_bits9 (fun HT_ HW_=>?_)
 have HS':Aside0 (Stays wd.drew (fun W=>W.heap[w2.heap.size]?=some (.cells #[.int .i64 1,.int .i64 3,.int .i64 0,.int .i64 0,.bool true,.int .i64 0,.slice b6 0 b6',.slice b7 3 b7',.slice b8 0 b8'] 26 (0,0))∧W.heap[gd]?=some (.cells #[.int .i64 1,.int .i64 3,.int .i64 0,.int .i64 0,.bool true,.int .i64 0,.slice d6 1 d6',.slice d7 3 d7',.slice d8 0 d8'] 26 (0,0))∧Arg W (⟨1,3,0,0,true,0,[],[0,0,0],[],[]⟩:Nod) b6 b7 b8 b6' b7' b8'∧Arg W (⟨1,3,0,0,true,0,[⟨#[97]⟩],[0,0,0],[],[⟨2,1,0,0,0,0,1,[]⟩]⟩:Nod) d6 d7 d8 d6' d7' d8'∧Arg W (⟨0,3,0,0,true,0,[⟨#[97]⟩],[1,0,0],[],[⟨1,0,1,0,0,0,0,[⟨#[97]⟩]⟩,⟨1,0,2,0,0,0,0,[⟨#[97]⟩]⟩]⟩:Nod) c6 c7 c8 c6' c7' c8')):=⟨HS.out⟩
 have HB':Aside0 (Below w.heap.size w wd.drew):=⟨below_drew1 HB.out⟩
 have HZ':Aside0 (Kd.C Kd.string wd.drew yM 0 []):=⟨HZ.out⟩
 have hgin':w3.heap.size < wd.drew.heap.size:=World.block_lt_of_cell? _ _ hHeld.1
 have had':ad6.block < wd.drew.heap.size:=World.block_lt_of_cell? _ _ hHeld.2.2.2.2.2.2.2.2.2.1
 clear HS HB HZ q0 q1 q2 q3 q4 q5 q6 q7 q8 z0 z1 z2 z3 z4 z5 z6 z7
 generalize wd.drew=w0_9 at HS' HB' HZ' hgin' had' hHeld ⊢
 have HB0:=Aside0.mk (below_size HB'.out)
 refine pure_ (i:=1) (N:=some 95) (v:=?_) (a':=?_) #[false,true,false,false,false,false,false,false,false,false,false,false,false] rfl rfl (any_of HT_.out (by kernel_rfl)) (fun _ _ _ h=>h) (Or.inl ⟨by rfl,?_⟩) ?_ ?_
 rotate_left
 ·intro w'
  go_simp
  with_reducible rfl
 rotate_left
 ·simp only [Act.put,List.setIfInBounds_toArray,List.set_cons_zero,List.set_cons_succ,i64_w,i32_w]
  rfl
 refine pure_ (i:=2) (N:=some 96) (v:=?_) (a':=?_) #[false,true,true,false,false,false,false,false,false,false,false,false,false] rfl rfl (any_of HT_.out (by kernel_rfl)) (fun _ _ _ h=>h) (Or.inl ⟨by rfl,?_⟩) ?_ ?_
 rotate_left
 ·intro w'
  go_simp
  with_reducible rfl
 rotate_left
 ·simp only [Act.put,List.setIfInBounds_toArray,List.set_cons_zero,List.set_cons_succ,i64_w,i32_w]
  rfl
 refine take_ (i:=0) (N:=some 94) (v:=?_) (a':=?_) #[true,true,true,false,false,false,false,false,false,false,false,false,false] rfl rfl (take_ofW HT_.out HW_.out (by kernel_rfl)) (fun _ _ _ h=>h) (Or.inl ⟨by rfl,?_⟩) hHeld ?_ ?_
 rotate_left
 ·rintro w' ⟨s0,s1,s2,s3,s4,s5,s6,s7,s8,s9,s10,s11,s12,s13,s14,s15,s16⟩
  go_simp
  with_reducible rfl
 rotate_left
 ·simp only [Act.put,List.setIfInBounds_toArray,List.set_cons_zero,List.set_cons_succ,i64_w,i32_w]
  rfl
 refine take_ (i:=3) (N:=some 97) (v:=?_) (a':=?_) #[true,true,true,true,false,false,false,false,false,false,false,false,false] rfl rfl (take_ofW HT_.out HW_.out (by kernel_rfl)) (fun _ _ _ h=>h) (Or.inl ⟨by rfl,?_⟩) hHeld ?_ ?_
 rotate_left
 ·rintro w' ⟨s0,s1,s2,s3,s4,s5,s6,s7,s8,s9,s10,s11,s12,s13,s14,s15,s16⟩
  go_simp
  with_reducible rfl
 rotate_left
 ·simp only [Act.put,List.setIfInBounds_toArray,List.set_cons_zero,List.set_cons_succ,i64_w,i32_w]
  rfl
 refine join_ (σ:=Option Addr×Nat×Option Addr×Nat×Option Addr×Nat×Option Addr×Nat×Nat) 3 #[true,true,true,true,true,true,true,true,true,true,false,false,false] (fun s_=>[(98,.tuple #[.agg #[.int .i64 0,.int .i64 3,.int .i64 0,.int .i64 0,.bool true,.int .i64 1,.slice s_.1 1 s_.2.1,.slice s_.2.2.1 3 s_.2.2.2.1,.slice s_.2.2.2.2.1 0 s_.2.2.2.2.2.1],.slice s_.2.2.2.2.2.2.1 2 s_.2.2.2.2.2.2.2.1,.int .i64 0]),(11,.pointer (some ⟨s_.2.2.2.2.2.2.2.2,0,none⟩)),(93,.tuple #[.agg #[.int .i64 0,.int .i64 3,.int .i64 0,.int .i64 0,.bool true,.int .i64 1,.slice s_.1 1 s_.2.1,.slice s_.2.2.1 3 s_.2.2.2.1,.slice s_.2.2.2.2.1 0 s_.2.2.2.2.2.1],.slice s_.2.2.2.2.2.2.1 2 s_.2.2.2.2.2.2.2.1,.int .i64 0]),(99,.agg #[.int .i64 0,.int .i64 3,.int .i64 0,.int .i64 0,.bool true,.int .i64 1,.slice s_.1 1 s_.2.1,.slice s_.2.2.1 3 s_.2.2.2.1,.slice s_.2.2.2.2.1 0 s_.2.2.2.2.2.1]),(100,.slice s_.2.2.2.2.2.2.1 2 s_.2.2.2.2.2.2.2.1),(101,.int .i64 0)]) (fun s_ w'=>(w'.cell? ⟨w3.heap.size,0,none⟩=some (.int .i64 0)∧w'.cell? ⟨w3.heap.size,1,none⟩=some (.int .i64 3)∧w'.cell? ⟨w3.heap.size,2,none⟩=some (.int .i64 0)∧w'.cell? ⟨w3.heap.size,3,none⟩=some (.int .i64 0)∧w'.cell? ⟨w3.heap.size,4,none⟩=some (.bool true)∧w'.cell? ⟨w3.heap.size,5,none⟩=some (.int .i64 0)∧w'.cell? ⟨w3.heap.size,6,none⟩=some (.slice c6 1 c6')∧w'.cell? ⟨w3.heap.size,7,none⟩=some (.slice c7 3 c7')∧w'.cell? ⟨w3.heap.size,8,none⟩=some (.slice c8 0 c8')∧w'.cell? ad6=some (.int .i64 2)∧w'.cell? ⟨ad6.block,ad6.off+1,none⟩=some (.int .i64 1)∧w'.cell? ⟨ad6.block,ad6.off+2,none⟩=some (.int .i64 0)∧w'.cell? ⟨ad6.block,ad6.off+3,none⟩=some (.int .i64 0)∧w'.cell? ⟨ad6.block,ad6.off+4,none⟩=some (.int .i64 0)∧w'.cell? ⟨ad6.block,ad6.off+5,none⟩=some (.int .i64 0)∧w'.cell? ⟨ad6.block,ad6.off+6,none⟩=some (.int .i64 1)∧w'.cell? ⟨ad6.block,ad6.off+7,none⟩=some (.slice yM 0 ym))∧(w'.heap[s_.2.2.2.2.2.2.2.2]?=some (.cells #[.int .i64 0,.int .i64 0,.int .i64 0,.int .i64 0,.bool false,.int .i64 0,.slice none 0 0,.slice none 0 0,.slice none 0 0] 26 (0,0)))∧(StaysBut w' s_.2.2.2.2.2.2.2.2 (fun W=>W.heap[w2.heap.size]?=some (.cells #[.int .i64 1,.int .i64 3,.int .i64 0,.int .i64 0,.bool true,.int .i64 0,.slice b6 0 b6',.slice b7 3 b7',.slice b8 0 b8'] 26 (0,0))∧W.heap[gd]?=some (.cells #[.int .i64 1,.int .i64 3,.int .i64 0,.int .i64 0,.bool true,.int .i64 0,.slice d6 1 d6',.slice d7 3 d7',.slice d8 0 d8'] 26 (0,0))∧Arg W (⟨1,3,0,0,true,0,[],[0,0,0],[],[]⟩:Nod) b6 b7 b8 b6' b7' b8'∧Arg W (⟨1,3,0,0,true,0,[⟨#[97]⟩],[0,0,0],[],[⟨2,1,0,0,0,0,1,[]⟩]⟩:Nod) d6 d7 d8 d6' d7' d8'∧Arg W (⟨0,3,0,0,true,0,[⟨#[97]⟩],[1,0,0],[],[⟨1,0,1,0,0,0,0,[⟨#[97]⟩]⟩,⟨1,0,2,0,0,0,0,[⟨#[97]⟩]⟩]⟩:Nod) c6 c7 c8 c6' c7' c8'∧Arg W (⟨0,3,0,0,true,1,[⟨#[97]⟩],[1,1,0],[],[⟨1,0,1,0,0,1,0,[⟨#[97]⟩]⟩,⟨1,0,2,0,0,1,0,[⟨#[97]⟩]⟩]⟩:Nod) s_.1 s_.2.2.1 s_.2.2.2.2.1 s_.2.1 s_.2.2.2.1 s_.2.2.2.2.2.1∧Kd.C k28 W s_.2.2.2.2.2.2.1 2 [(⟨1,0,1,0,0,1,0,[⟨#[97]⟩]⟩:S28),⟨1,0,2,0,0,1,0,[⟨#[97]⟩]⟩]))∧(w0_9.heap.size≤s_.2.2.2.2.2.2.2.2)∧(Below w.heap.size w w')) ?_ ?_
 rotate_left
 ·intro hCont
  refine two_ (i:=4) (j:=9) (Ni:=some 98) (Nj:=some 11) #[true,true,true,true,true,false,false,false,false,false,false,false,false] #[true,true,true,true,false,false,false,false,false,true,false,false,false] rfl rfl rfl rfl (two_of HT_.out (by kernel_rfl)) (by decide) (by decide) (fun K hK=>?_) (fun K hK=>?_)
  ·skip
   refine goes_ Tryz.func10 (by kernel_rfl) rfl #[.agg #[.int .i64 0,.int .i64 3,.int .i64 0,.int .i64 0,.bool true,.int .i64 0,.slice c6 1 c6',.slice c7 3 c7',.slice c8 0 c8'],.agg #[.int .i64 2,.int .i64 1,.int .i64 0,.int .i64 0,.int .i64 0,.int .i64 0,.int .i64 1,.slice yM 0 ym]] (by rfl) rfl rfl (by (try simp only [List.map_toArray,List.map_cons,List.map_nil]);first | done | rfl) ?_
   with_reducible refine (w_handle2 _ _ _ _ _ _ _ yM ym (HS'.out.here).2.2.2.2 HZ'.out HZL.out).mono ?_
   rintro e w4 ⟨x6,x6',x7,x7',x8,x8',u6,u6',rfl,hA,h9,hC,hb,hKK⟩
   refine ⟨_,rfl,?_⟩
   have hS4:w4.cell? ⟨w3.heap.size,0,none⟩=some (.int .i64 0)∧w4.cell? ⟨w3.heap.size,1,none⟩=some (.int .i64 3)∧w4.cell? ⟨w3.heap.size,2,none⟩=some (.int .i64 0)∧w4.cell? ⟨w3.heap.size,3,none⟩=some (.int .i64 0)∧w4.cell? ⟨w3.heap.size,4,none⟩=some (.bool true)∧w4.cell? ⟨w3.heap.size,5,none⟩=some (.int .i64 0)∧w4.cell? ⟨w3.heap.size,6,none⟩=some (.slice c6 1 c6')∧w4.cell? ⟨w3.heap.size,7,none⟩=some (.slice c7 3 c7')∧w4.cell? ⟨w3.heap.size,8,none⟩=some (.slice c8 0 c8')∧w4.cell? ad6=some (.int .i64 2)∧w4.cell? ⟨ad6.block,ad6.off+1,none⟩=some (.int .i64 1)∧w4.cell? ⟨ad6.block,ad6.off+2,none⟩=some (.int .i64 0)∧w4.cell? ⟨ad6.block,ad6.off+3,none⟩=some (.int .i64 0)∧w4.cell? ⟨ad6.block,ad6.off+4,none⟩=some (.int .i64 0)∧w4.cell? ⟨ad6.block,ad6.off+5,none⟩=some (.int .i64 0)∧w4.cell? ⟨ad6.block,ad6.off+6,none⟩=some (.int .i64 1)∧w4.cell? ⟨ad6.block,ad6.off+7,none⟩=some (.slice yM 0 ym):=⟨(hb.cell (World.block_lt_of_cell? _ _ (hHeld.1))).trans (hHeld.1),(hb.cell (World.block_lt_of_cell? _ _ (hHeld.2.1))).trans (hHeld.2.1),(hb.cell (World.block_lt_of_cell? _ _ (hHeld.2.2.1))).trans (hHeld.2.2.1),(hb.cell (World.block_lt_of_cell? _ _ (hHeld.2.2.2.1))).trans (hHeld.2.2.2.1),(hb.cell (World.block_lt_of_cell? _ _ (hHeld.2.2.2.2.1))).trans (hHeld.2.2.2.2.1),(hb.cell (World.block_lt_of_cell? _ _ (hHeld.2.2.2.2.2.1))).trans (hHeld.2.2.2.2.2.1),(hb.cell (World.block_lt_of_cell? _ _ (hHeld.2.2.2.2.2.2.1))).trans (hHeld.2.2.2.2.2.2.1),(hb.cell (World.block_lt_of_cell? _ _ (hHeld.2.2.2.2.2.2.2.1))).trans (hHeld.2.2.2.2.2.2.2.1),(hb.cell (World.block_lt_of_cell? _ _ (hHeld.2.2.2.2.2.2.2.2.1))).trans (hHeld.2.2.2.2.2.2.2.2.1),(hb.cell (World.block_lt_of_cell? _ _ (hHeld.2.2.2.2.2.2.2.2.2.1))).trans (hHeld.2.2.2.2.2.2.2.2.2.1),(hb.cell (World.block_lt_of_cell? _ _ (hHeld.2.2.2.2.2.2.2.2.2.2.1))).trans (hHeld.2.2.2.2.2.2.2.2.2.2.1),(hb.cell (World.block_lt_of_cell? _ _ (hHeld.2.2.2.2.2.2.2.2.2.2.2.1))).trans (hHeld.2.2.2.2.2.2.2.2.2.2.2.1),(hb.cell (World.block_lt_of_cell? _ _ (hHeld.2.2.2.2.2.2.2.2.2.2.2.2.1))).trans (hHeld.2.2.2.2.2.2.2.2.2.2.2.2.1),(hb.cell (World.block_lt_of_cell? _ _ (hHeld.2.2.2.2.2.2.2.2.2.2.2.2.2.1))).trans (hHeld.2.2.2.2.2.2.2.2.2.2.2.2.2.1),(hb.cell (World.block_lt_of_cell? _ _ (hHeld.2.2.2.2.2.2.2.2.2.2.2.2.2.2.1))).trans (hHeld.2.2.2.2.2.2.2.2.2.2.2.2.2.2.1),(hb.cell (World.block_lt_of_cell? _ _ (hHeld.2.2.2.2.2.2.2.2.2.2.2.2.2.2.2.1))).trans (hHeld.2.2.2.2.2.2.2.2.2.2.2.2.2.2.2.1),(hb.cell (World.block_lt_of_cell? _ _ (hHeld.2.2.2.2.2.2.2.2.2.2.2.2.2.2.2.2))).trans (hHeld.2.2.2.2.2.2.2.2.2.2.2.2.2.2.2.2)⟩
   have HS4:=Aside0.mk ((HS'.out.below hb).and (Stays.of hKK))
   have HB4:=Aside0.mk (below_step HB'.out hb)
   have hz4:=hb.size
   clear hA h9 hC hb hKK hHeld
   refine hK.out _ _ hS4 (fun hHeld=>?_)
   clear hK K hS4
   refine norm_ (a':=?_) ?_ ?_
   rotate_left
   ·show Act.put _ (some 98) _=_
    simp only [Act.put,List.setIfInBounds_toArray,List.set_cons_zero,List.set_cons_succ,i64_w,i32_w]
    rfl
   refine pure_ (i:=5) (N:=some 93) (v:=?_) (a':=?_) #[true,true,true,true,true,true,false,false,false,false,false,false,false] rfl rfl (any_of HT_.out (by kernel_rfl)) (fun _ _ _ h=>h) (Or.inl ⟨by rfl,?_⟩) ?_ ?_
   rotate_left
   ·intro w'
    go_simp
    with_reducible rfl
   rotate_left
   ·simp only [Act.put,List.setIfInBounds_toArray,List.set_cons_zero,List.set_cons_succ,i64_w,i32_w]
    rfl
   refine pure_ (i:=6) (N:=some 99) (v:=?_) (a':=?_) #[true,true,true,true,true,true,true,false,false,false,false,false,false] rfl rfl (any_of HT_.out (by kernel_rfl)) (fun _ _ _ h=>h) (Or.inl ⟨by rfl,?_⟩) ?_ ?_
   rotate_left
   ·intro w'
    go_simp
    with_reducible rfl
   rotate_left
   ·simp only [Act.put,List.setIfInBounds_toArray,List.set_cons_zero,List.set_cons_succ,i64_w,i32_w]
    rfl
   refine pure_ (i:=7) (N:=some 100) (v:=?_) (a':=?_) #[true,true,true,true,true,true,true,true,false,false,false,false,false] rfl rfl (any_of HT_.out (by kernel_rfl)) (fun _ _ _ h=>h) (Or.inl ⟨by rfl,?_⟩) ?_ ?_
   rotate_left
   ·intro w'
    go_simp
    with_reducible rfl
   rotate_left
   ·simp only [Act.put,List.setIfInBounds_toArray,List.set_cons_zero,List.set_cons_succ,i64_w,i32_w]
    rfl
   refine pure_ (i:=8) (N:=some 101) (v:=?_) (a':=?_) #[true,true,true,true,true,true,true,true,true,false,false,false,false] rfl rfl (any_of HT_.out (by kernel_rfl)) (fun _ _ _ h=>h) (Or.inl ⟨by rfl,?_⟩) ?_ ?_
   rotate_left
   ·intro w'
    go_simp
    with_reducible rfl
   rotate_left
   ·simp only [Act.put,List.setIfInBounds_toArray,List.set_cons_zero,List.set_cons_succ,i64_w,i32_w]
    rfl
   refine one_ (i:=9) (N:=some 11) #[true,true,true,true,true,true,true,true,true,true,false,false,false] rfl rfl (one_of HT_.out (by kernel_rfl)) (by decide) (fun K hK=>?_)
   refine box_step ?hg (N:=11) ?hd (cs:=#[.int .i64 0,.int .i64 0,.int .i64 0,.int .i64 0,.bool false,.int .i64 0,.slice none 0 0,.slice none 0 0,.slice none 0 0]) (t:=26) ?hr ?_;(case hd=>rfl);(case hg=>rfl);(case hr=>first | (go_simp;done) | (go_simp;rfl))
   intro gx hg w5 hbox' hb
   have hS5:w5.cell? ⟨w3.heap.size,0,none⟩=some (.int .i64 0)∧w5.cell? ⟨w3.heap.size,1,none⟩=some (.int .i64 3)∧w5.cell? ⟨w3.heap.size,2,none⟩=some (.int .i64 0)∧w5.cell? ⟨w3.heap.size,3,none⟩=some (.int .i64 0)∧w5.cell? ⟨w3.heap.size,4,none⟩=some (.bool true)∧w5.cell? ⟨w3.heap.size,5,none⟩=some (.int .i64 0)∧w5.cell? ⟨w3.heap.size,6,none⟩=some (.slice c6 1 c6')∧w5.cell? ⟨w3.heap.size,7,none⟩=some (.slice c7 3 c7')∧w5.cell? ⟨w3.heap.size,8,none⟩=some (.slice c8 0 c8')∧w5.cell? ad6=some (.int .i64 2)∧w5.cell? ⟨ad6.block,ad6.off+1,none⟩=some (.int .i64 1)∧w5.cell? ⟨ad6.block,ad6.off+2,none⟩=some (.int .i64 0)∧w5.cell? ⟨ad6.block,ad6.off+3,none⟩=some (.int .i64 0)∧w5.cell? ⟨ad6.block,ad6.off+4,none⟩=some (.int .i64 0)∧w5.cell? ⟨ad6.block,ad6.off+5,none⟩=some (.int .i64 0)∧w5.cell? ⟨ad6.block,ad6.off+6,none⟩=some (.int .i64 1)∧w5.cell? ⟨ad6.block,ad6.off+7,none⟩=some (.slice yM 0 ym):=⟨(hb.cell (World.block_lt_of_cell? _ _ (hHeld.1))).trans (hHeld.1),(hb.cell (World.block_lt_of_cell? _ _ (hHeld.2.1))).trans (hHeld.2.1),(hb.cell (World.block_lt_of_cell? _ _ (hHeld.2.2.1))).trans (hHeld.2.2.1),(hb.cell (World.block_lt_of_cell? _ _ (hHeld.2.2.2.1))).trans (hHeld.2.2.2.1),(hb.cell (World.block_lt_of_cell? _ _ (hHeld.2.2.2.2.1))).trans (hHeld.2.2.2.2.1),(hb.cell (World.block_lt_of_cell? _ _ (hHeld.2.2.2.2.2.1))).trans (hHeld.2.2.2.2.2.1),(hb.cell (World.block_lt_of_cell? _ _ (hHeld.2.2.2.2.2.2.1))).trans (hHeld.2.2.2.2.2.2.1),(hb.cell (World.block_lt_of_cell? _ _ (hHeld.2.2.2.2.2.2.2.1))).trans (hHeld.2.2.2.2.2.2.2.1),(hb.cell (World.block_lt_of_cell? _ _ (hHeld.2.2.2.2.2.2.2.2.1))).trans (hHeld.2.2.2.2.2.2.2.2.1),(hb.cell (World.block_lt_of_cell? _ _ (hHeld.2.2.2.2.2.2.2.2.2.1))).trans (hHeld.2.2.2.2.2.2.2.2.2.1),(hb.cell (World.block_lt_of_cell? _ _ (hHeld.2.2.2.2.2.2.2.2.2.2.1))).trans (hHeld.2.2.2.2.2.2.2.2.2.2.1),(hb.cell (World.block_lt_of_cell? _ _ (hHeld.2.2.2.2.2.2.2.2.2.2.2.1))).trans (hHeld.2.2.2.2.2.2.2.2.2.2.2.1),(hb.cell (World.block_lt_of_cell? _ _ (hHeld.2.2.2.2.2.2.2.2.2.2.2.2.1))).trans (hHeld.2.2.2.2.2.2.2.2.2.2.2.2.1),(hb.cell (World.block_lt_of_cell? _ _ (hHeld.2.2.2.2.2.2.2.2.2.2.2.2.2.1))).trans (hHeld.2.2.2.2.2.2.2.2.2.2.2.2.2.1),(hb.cell (World.block_lt_of_cell? _ _ (hHeld.2.2.2.2.2.2.2.2.2.2.2.2.2.2.1))).trans (hHeld.2.2.2.2.2.2.2.2.2.2.2.2.2.2.1),(hb.cell (World.block_lt_of_cell? _ _ (hHeld.2.2.2.2.2.2.2.2.2.2.2.2.2.2.2.1))).trans (hHeld.2.2.2.2.2.2.2.2.2.2.2.2.2.2.2.1),(hb.cell (World.block_lt_of_cell? _ _ (hHeld.2.2.2.2.2.2.2.2.2.2.2.2.2.2.2.2))).trans (hHeld.2.2.2.2.2.2.2.2.2.2.2.2.2.2.2.2)⟩
   have HF5:=HS4.out.but_new hg hb
   have HB5:=below_step HB4.out hb
   have hz5:w0_9.heap.size≤gx:=by rw [hg];exact hz4
   refine hK.out _ _ hS5 (fun hHeld=>?_)
   clear hK K hS5
   refine norm_ (a':=?_) ?_ ?_
   rotate_left
   ·show Act.put _ (some 11) _=_
    simp only [Act.put,List.setIfInBounds_toArray,List.set_cons_zero,List.set_cons_succ,i64_w,i32_w]
    rfl
   exact norm_ (by simp only [putAll,Act.put,List.setIfInBounds_toArray,List.set_cons_zero,List.set_cons_succ]) (hCont (x6,x6',x7,x7',x8,x8',u6,u6',gx) _ ⟨hHeld,hbox',HF5.mono (fun W' h=>⟨h.1.1,h.1.2.1,h.1.2.2.1,h.1.2.2.2.1,h.1.2.2.2.2,h.2.1,h.2.2⟩),hz5,HB5⟩)
  ·skip
   refine box_step ?hg (N:=11) ?hd (cs:=#[.int .i64 0,.int .i64 0,.int .i64 0,.int .i64 0,.bool false,.int .i64 0,.slice none 0 0,.slice none 0 0,.slice none 0 0]) (t:=26) ?hr ?_;(case hd=>rfl);(case hg=>rfl);(case hr=>first | (go_simp;done) | (go_simp;rfl))
   intro gx hg w4 hbox hb4
   have hS4:w4.cell? ⟨w3.heap.size,0,none⟩=some (.int .i64 0)∧w4.cell? ⟨w3.heap.size,1,none⟩=some (.int .i64 3)∧w4.cell? ⟨w3.heap.size,2,none⟩=some (.int .i64 0)∧w4.cell? ⟨w3.heap.size,3,none⟩=some (.int .i64 0)∧w4.cell? ⟨w3.heap.size,4,none⟩=some (.bool true)∧w4.cell? ⟨w3.heap.size,5,none⟩=some (.int .i64 0)∧w4.cell? ⟨w3.heap.size,6,none⟩=some (.slice c6 1 c6')∧w4.cell? ⟨w3.heap.size,7,none⟩=some (.slice c7 3 c7')∧w4.cell? ⟨w3.heap.size,8,none⟩=some (.slice c8 0 c8')∧w4.cell? ad6=some (.int .i64 2)∧w4.cell? ⟨ad6.block,ad6.off+1,none⟩=some (.int .i64 1)∧w4.cell? ⟨ad6.block,ad6.off+2,none⟩=some (.int .i64 0)∧w4.cell? ⟨ad6.block,ad6.off+3,none⟩=some (.int .i64 0)∧w4.cell? ⟨ad6.block,ad6.off+4,none⟩=some (.int .i64 0)∧w4.cell? ⟨ad6.block,ad6.off+5,none⟩=some (.int .i64 0)∧w4.cell? ⟨ad6.block,ad6.off+6,none⟩=some (.int .i64 1)∧w4.cell? ⟨ad6.block,ad6.off+7,none⟩=some (.slice yM 0 ym):=⟨(hb4.cell (World.block_lt_of_cell? _ _ (hHeld.1))).trans (hHeld.1),(hb4.cell (World.block_lt_of_cell? _ _ (hHeld.2.1))).trans (hHeld.2.1),(hb4.cell (World.block_lt_of_cell? _ _ (hHeld.2.2.1))).trans (hHeld.2.2.1),(hb4.cell (World.block_lt_of_cell? _ _ (hHeld.2.2.2.1))).trans (hHeld.2.2.2.1),(hb4.cell (World.block_lt_of_cell? _ _ (hHeld.2.2.2.2.1))).trans (hHeld.2.2.2.2.1),(hb4.cell (World.block_lt_of_cell? _ _ (hHeld.2.2.2.2.2.1))).trans (hHeld.2.2.2.2.2.1),(hb4.cell (World.block_lt_of_cell? _ _ (hHeld.2.2.2.2.2.2.1))).trans (hHeld.2.2.2.2.2.2.1),(hb4.cell (World.block_lt_of_cell? _ _ (hHeld.2.2.2.2.2.2.2.1))).trans (hHeld.2.2.2.2.2.2.2.1),(hb4.cell (World.block_lt_of_cell? _ _ (hHeld.2.2.2.2.2.2.2.2.1))).trans (hHeld.2.2.2.2.2.2.2.2.1),(hb4.cell (World.block_lt_of_cell? _ _ (hHeld.2.2.2.2.2.2.2.2.2.1))).trans (hHeld.2.2.2.2.2.2.2.2.2.1),(hb4.cell (World.block_lt_of_cell? _ _ (hHeld.2.2.2.2.2.2.2.2.2.2.1))).trans (hHeld.2.2.2.2.2.2.2.2.2.2.1),(hb4.cell (World.block_lt_of_cell? _ _ (hHeld.2.2.2.2.2.2.2.2.2.2.2.1))).trans (hHeld.2.2.2.2.2.2.2.2.2.2.2.1),(hb4.cell (World.block_lt_of_cell? _ _ (hHeld.2.2.2.2.2.2.2.2.2.2.2.2.1))).trans (hHeld.2.2.2.2.2.2.2.2.2.2.2.2.1),(hb4.cell (World.block_lt_of_cell? _ _ (hHeld.2.2.2.2.2.2.2.2.2.2.2.2.2.1))).trans (hHeld.2.2.2.2.2.2.2.2.2.2.2.2.2.1),(hb4.cell (World.block_lt_of_cell? _ _ (hHeld.2.2.2.2.2.2.2.2.2.2.2.2.2.2.1))).trans (hHeld.2.2.2.2.2.2.2.2.2.2.2.2.2.2.1),(hb4.cell (World.block_lt_of_cell? _ _ (hHeld.2.2.2.2.2.2.2.2.2.2.2.2.2.2.2.1))).trans (hHeld.2.2.2.2.2.2.2.2.2.2.2.2.2.2.2.1),(hb4.cell (World.block_lt_of_cell? _ _ (hHeld.2.2.2.2.2.2.2.2.2.2.2.2.2.2.2.2))).trans (hHeld.2.2.2.2.2.2.2.2.2.2.2.2.2.2.2.2)⟩
   have HF4:=HS'.out.but_new hg hb4
   have HB4:=Aside0.mk (below_step HB'.out hb4)
   have hz5:w0_9.heap.size≤gx:=Nat.le_of_eq hg.symm
   have hz6:gx < w4.heap.size:=blk_lt hbox
   refine hK.out _ _ hS4 (fun hHeld=>?_)
   clear hK K hS4
   refine norm_ (a':=?_) ?_ ?_
   rotate_left
   ·show Act.put _ (some 11) _=_
    simp only [Act.put,List.setIfInBounds_toArray,List.set_cons_zero,List.set_cons_succ,i64_w,i32_w]
    rfl
   refine one_ (i:=4) (N:=some 98) #[true,true,true,true,true,false,false,false,false,true,false,false,false] rfl rfl (one_of HT_.out (by kernel_rfl)) (by decide) (fun K hK=>?_)
   refine goes_ Tryz.func10 (by kernel_rfl) rfl #[.agg #[.int .i64 0,.int .i64 3,.int .i64 0,.int .i64 0,.bool true,.int .i64 0,.slice c6 1 c6',.slice c7 3 c7',.slice c8 0 c8'],.agg #[.int .i64 2,.int .i64 1,.int .i64 0,.int .i64 0,.int .i64 0,.int .i64 0,.int .i64 1,.slice yM 0 ym]] (by rfl) rfl rfl (by (try simp only [List.map_toArray,List.map_cons,List.map_nil]);first | done | rfl) ?_
   with_reducible refine (w_handle2 _ _ _ _ _ _ _ yM ym (HF4.here).2.2.2.2 (Kd.C_below HZ'.out hb4) HZL.out).mono ?_
   rintro e w5 ⟨x6,x6',x7,x7',x8,x8',u6,u6',rfl,hA,h9,hC,hb,hKK⟩
   refine ⟨_,rfl,?_⟩
   have hS5:w5.cell? ⟨w3.heap.size,0,none⟩=some (.int .i64 0)∧w5.cell? ⟨w3.heap.size,1,none⟩=some (.int .i64 3)∧w5.cell? ⟨w3.heap.size,2,none⟩=some (.int .i64 0)∧w5.cell? ⟨w3.heap.size,3,none⟩=some (.int .i64 0)∧w5.cell? ⟨w3.heap.size,4,none⟩=some (.bool true)∧w5.cell? ⟨w3.heap.size,5,none⟩=some (.int .i64 0)∧w5.cell? ⟨w3.heap.size,6,none⟩=some (.slice c6 1 c6')∧w5.cell? ⟨w3.heap.size,7,none⟩=some (.slice c7 3 c7')∧w5.cell? ⟨w3.heap.size,8,none⟩=some (.slice c8 0 c8')∧w5.cell? ad6=some (.int .i64 2)∧w5.cell? ⟨ad6.block,ad6.off+1,none⟩=some (.int .i64 1)∧w5.cell? ⟨ad6.block,ad6.off+2,none⟩=some (.int .i64 0)∧w5.cell? ⟨ad6.block,ad6.off+3,none⟩=some (.int .i64 0)∧w5.cell? ⟨ad6.block,ad6.off+4,none⟩=some (.int .i64 0)∧w5.cell? ⟨ad6.block,ad6.off+5,none⟩=some (.int .i64 0)∧w5.cell? ⟨ad6.block,ad6.off+6,none⟩=some (.int .i64 1)∧w5.cell? ⟨ad6.block,ad6.off+7,none⟩=some (.slice yM 0 ym):=⟨(hb.cell (World.block_lt_of_cell? _ _ (hHeld.1))).trans (hHeld.1),(hb.cell (World.block_lt_of_cell? _ _ (hHeld.2.1))).trans (hHeld.2.1),(hb.cell (World.block_lt_of_cell? _ _ (hHeld.2.2.1))).trans (hHeld.2.2.1),(hb.cell (World.block_lt_of_cell? _ _ (hHeld.2.2.2.1))).trans (hHeld.2.2.2.1),(hb.cell (World.block_lt_of_cell? _ _ (hHeld.2.2.2.2.1))).trans (hHeld.2.2.2.2.1),(hb.cell (World.block_lt_of_cell? _ _ (hHeld.2.2.2.2.2.1))).trans (hHeld.2.2.2.2.2.1),(hb.cell (World.block_lt_of_cell? _ _ (hHeld.2.2.2.2.2.2.1))).trans (hHeld.2.2.2.2.2.2.1),(hb.cell (World.block_lt_of_cell? _ _ (hHeld.2.2.2.2.2.2.2.1))).trans (hHeld.2.2.2.2.2.2.2.1),(hb.cell (World.block_lt_of_cell? _ _ (hHeld.2.2.2.2.2.2.2.2.1))).trans (hHeld.2.2.2.2.2.2.2.2.1),(hb.cell (World.block_lt_of_cell? _ _ (hHeld.2.2.2.2.2.2.2.2.2.1))).trans (hHeld.2.2.2.2.2.2.2.2.2.1),(hb.cell (World.block_lt_of_cell? _ _ (hHeld.2.2.2.2.2.2.2.2.2.2.1))).trans (hHeld.2.2.2.2.2.2.2.2.2.2.1),(hb.cell (World.block_lt_of_cell? _ _ (hHeld.2.2.2.2.2.2.2.2.2.2.2.1))).trans (hHeld.2.2.2.2.2.2.2.2.2.2.2.1),(hb.cell (World.block_lt_of_cell? _ _ (hHeld.2.2.2.2.2.2.2.2.2.2.2.2.1))).trans (hHeld.2.2.2.2.2.2.2.2.2.2.2.2.1),(hb.cell (World.block_lt_of_cell? _ _ (hHeld.2.2.2.2.2.2.2.2.2.2.2.2.2.1))).trans (hHeld.2.2.2.2.2.2.2.2.2.2.2.2.2.1),(hb.cell (World.block_lt_of_cell? _ _ (hHeld.2.2.2.2.2.2.2.2.2.2.2.2.2.2.1))).trans (hHeld.2.2.2.2.2.2.2.2.2.2.2.2.2.2.1),(hb.cell (World.block_lt_of_cell? _ _ (hHeld.2.2.2.2.2.2.2.2.2.2.2.2.2.2.2.1))).trans (hHeld.2.2.2.2.2.2.2.2.2.2.2.2.2.2.2.1),(hb.cell (World.block_lt_of_cell? _ _ (hHeld.2.2.2.2.2.2.2.2.2.2.2.2.2.2.2.2))).trans (hHeld.2.2.2.2.2.2.2.2.2.2.2.2.2.2.2.2)⟩
   have HF5:=(HF4.below hb).and (StaysBut.of hKK hz6)
   have HB5:=below_step HB4.out hb
   have hbox':=blk_below hbox hb
   clear hA h9 hC hKK hHeld
   refine hK.out _ _ hS5 (fun hHeld=>?_)
   clear hK K hS5
   refine norm_ (a':=?_) ?_ ?_
   rotate_left
   ·show Act.put _ (some 98) _=_
    simp only [Act.put,List.setIfInBounds_toArray,List.set_cons_zero,List.set_cons_succ,i64_w,i32_w]
    rfl
   refine pure_ (i:=5) (N:=some 93) (v:=?_) (a':=?_) #[true,true,true,true,true,true,false,false,false,true,false,false,false] rfl rfl (any_of HT_.out (by kernel_rfl)) (fun _ _ _ h=>h) (Or.inl ⟨by rfl,?_⟩) ?_ ?_
   rotate_left
   ·intro w'
    go_simp
    with_reducible rfl
   rotate_left
   ·simp only [Act.put,List.setIfInBounds_toArray,List.set_cons_zero,List.set_cons_succ,i64_w,i32_w]
    rfl
   refine pure_ (i:=6) (N:=some 99) (v:=?_) (a':=?_) #[true,true,true,true,true,true,true,false,false,true,false,false,false] rfl rfl (any_of HT_.out (by kernel_rfl)) (fun _ _ _ h=>h) (Or.inl ⟨by rfl,?_⟩) ?_ ?_
   rotate_left
   ·intro w'
    go_simp
    with_reducible rfl
   rotate_left
   ·simp only [Act.put,List.setIfInBounds_toArray,List.set_cons_zero,List.set_cons_succ,i64_w,i32_w]
    rfl
   refine pure_ (i:=7) (N:=some 100) (v:=?_) (a':=?_) #[true,true,true,true,true,true,true,true,false,true,false,false,false] rfl rfl (any_of HT_.out (by kernel_rfl)) (fun _ _ _ h=>h) (Or.inl ⟨by rfl,?_⟩) ?_ ?_
   rotate_left
   ·intro w'
    go_simp
    with_reducible rfl
   rotate_left
   ·simp only [Act.put,List.setIfInBounds_toArray,List.set_cons_zero,List.set_cons_succ,i64_w,i32_w]
    rfl
   refine pure_ (i:=8) (N:=some 101) (v:=?_) (a':=?_) #[true,true,true,true,true,true,true,true,true,true,false,false,false] rfl rfl (any_of HT_.out (by kernel_rfl)) (fun _ _ _ h=>h) (Or.inl ⟨by rfl,?_⟩) ?_ ?_
   rotate_left
   ·intro w'
    go_simp
    with_reducible rfl
   rotate_left
   ·simp only [Act.put,List.setIfInBounds_toArray,List.set_cons_zero,List.set_cons_succ,i64_w,i32_w]
    rfl
   exact norm_ (by simp only [putAll,Act.put,List.setIfInBounds_toArray,List.set_cons_zero,List.set_cons_succ]) (hCont (x6,x6',x7,x7',x8,x8',u6,u6',gx) _ ⟨hHeld,hbox',HF5.mono (fun W' h=>⟨h.1.1,h.1.2.1,h.1.2.2.1,h.1.2.2.2.1,h.1.2.2.2.2,h.2.1,h.2.2⟩),hz5,HB5⟩)
 rintro ⟨x6,x6',x7,x7',x8,x8',u6,u6',gx⟩ w5 ⟨hHeld,hbox,HF5,hz5,HB5⟩
 clear HS' HB' HZ'
 replace hz5:w0_9.heap.size≤gx:=hz5
 replace hbox:w5.heap[gx]?=some (.cells #[.int .i64 0,.int .i64 0,.int .i64 0,.int .i64 0,.bool false,.int .i64 0,.slice none 0 0,.slice none 0 0,.slice none 0 0] 26 (0,0)):=hbox
 replace HF5:StaysBut w5 gx (fun W=>W.heap[w2.heap.size]?=some (.cells #[.int .i64 1,.int .i64 3,.int .i64 0,.int .i64 0,.bool true,.int .i64 0,.slice b6 0 b6',.slice b7 3 b7',.slice b8 0 b8'] 26 (0,0))∧W.heap[gd]?=some (.cells #[.int .i64 1,.int .i64 3,.int .i64 0,.int .i64 0,.bool true,.int .i64 0,.slice d6 1 d6',.slice d7 3 d7',.slice d8 0 d8'] 26 (0,0))∧Arg W (⟨1,3,0,0,true,0,[],[0,0,0],[],[]⟩:Nod) b6 b7 b8 b6' b7' b8'∧Arg W (⟨1,3,0,0,true,0,[⟨#[97]⟩],[0,0,0],[],[⟨2,1,0,0,0,0,1,[]⟩]⟩:Nod) d6 d7 d8 d6' d7' d8'∧Arg W (⟨0,3,0,0,true,0,[⟨#[97]⟩],[1,0,0],[],[⟨1,0,1,0,0,0,0,[⟨#[97]⟩]⟩,⟨1,0,2,0,0,0,0,[⟨#[97]⟩]⟩]⟩:Nod) c6 c7 c8 c6' c7' c8'∧Arg W (⟨0,3,0,0,true,1,[⟨#[97]⟩],[1,1,0],[],[⟨1,0,1,0,0,1,0,[⟨#[97]⟩]⟩,⟨1,0,2,0,0,1,0,[⟨#[97]⟩]⟩]⟩:Nod) x6 x7 x8 x6' x7' x8'∧Kd.C k28 W u6 2 [(⟨1,0,1,0,0,1,0,[⟨#[97]⟩]⟩:S28),⟨1,0,2,0,0,1,0,[⟨#[97]⟩]⟩]):=HF5
 refine norm_ (a':=?_) ?_ ?_
 rotate_left
 ·simp only [putAll,Act.put,List.setIfInBounds_toArray,List.set_cons_zero,List.set_cons_succ]
  rfl
 refine one_ (i:=10) (N:=none) #[true,true,true,true,true,true,true,true,true,true,true,false,false] rfl rfl (one_of HT_.out (by kernel_rfl)) (by decide) (fun K hK=>?_)
 have hs0:w5.cell? ⟨gx,0,none⟩=some (.int .i64 0):=(blk_cell hbox 0).trans rfl
 have hf0:=blk_frozen hbox 0
 have hs1:w5.cell? ⟨gx,1,none⟩=some (.int .i64 0):=(blk_cell hbox 1).trans rfl
 have hf1:=blk_frozen hbox 1
 have hs2:w5.cell? ⟨gx,2,none⟩=some (.int .i64 0):=(blk_cell hbox 2).trans rfl
 have hf2:=blk_frozen hbox 2
 have hs3:w5.cell? ⟨gx,3,none⟩=some (.int .i64 0):=(blk_cell hbox 3).trans rfl
 have hf3:=blk_frozen hbox 3
 have hs4:w5.cell? ⟨gx,4,none⟩=some (.bool false):=(blk_cell hbox 4).trans rfl
 have hf4:=blk_frozen hbox 4
 have hs5:w5.cell? ⟨gx,5,none⟩=some (.int .i64 0):=(blk_cell hbox 5).trans rfl
 have hf5:=blk_frozen hbox 5
 have hs6:w5.cell? ⟨gx,6,none⟩=some (.slice none 0 0):=(blk_cell hbox 6).trans rfl
 have hf6:=blk_frozen hbox 6
 have hs7:w5.cell? ⟨gx,7,none⟩=some (.slice none 0 0):=(blk_cell hbox 7).trans rfl
 have hf7:=blk_frozen hbox 7
 have hs8:w5.cell? ⟨gx,8,none⟩=some (.slice none 0 0):=(blk_cell hbox 8).trans rfl
 have hf8:=blk_frozen hbox 8
 refine skip_ (w1:=?_) (by rfl) rfl ?_ ?_
 rotate_left
 ·go_simp
  rfl
 have hP:=put9 hbox (.int .i64 0) (.int .i64 3) (.int .i64 0) (.int .i64 0) (.bool true) (.int .i64 1) (.slice x6 1 x6') (.slice x7 3 x7') (.slice x8 0 x8')
 refine hK.out _ _ ⟨(World.cell?_of_block (w:=w5) (hP.2 _ (by show w3.heap.size≠gx;omega))).trans (hHeld.1),(World.cell?_of_block (w:=w5) (hP.2 _ (by show w3.heap.size≠gx;omega))).trans (hHeld.2.1),(World.cell?_of_block (w:=w5) (hP.2 _ (by show w3.heap.size≠gx;omega))).trans (hHeld.2.2.1),(World.cell?_of_block (w:=w5) (hP.2 _ (by show w3.heap.size≠gx;omega))).trans (hHeld.2.2.2.1),(World.cell?_of_block (w:=w5) (hP.2 _ (by show w3.heap.size≠gx;omega))).trans (hHeld.2.2.2.2.1),(World.cell?_of_block (w:=w5) (hP.2 _ (by show w3.heap.size≠gx;omega))).trans (hHeld.2.2.2.2.2.1),(World.cell?_of_block (w:=w5) (hP.2 _ (by show w3.heap.size≠gx;omega))).trans (hHeld.2.2.2.2.2.2.1),(World.cell?_of_block (w:=w5) (hP.2 _ (by show w3.heap.size≠gx;omega))).trans (hHeld.2.2.2.2.2.2.2.1),(World.cell?_of_block (w:=w5) (hP.2 _ (by show w3.heap.size≠gx;omega))).trans (hHeld.2.2.2.2.2.2.2.2.1),(World.cell?_of_block (w:=w5) (hP.2 _ (by show ad6.block≠gx;omega))).trans (hHeld.2.2.2.2.2.2.2.2.2.1),(World.cell?_of_block (w:=w5) (hP.2 _ (by show ad6.block≠gx;omega))).trans (hHeld.2.2.2.2.2.2.2.2.2.2.1),(World.cell?_of_block (w:=w5) (hP.2 _ (by show ad6.block≠gx;omega))).trans (hHeld.2.2.2.2.2.2.2.2.2.2.2.1),(World.cell?_of_block (w:=w5) (hP.2 _ (by show ad6.block≠gx;omega))).trans (hHeld.2.2.2.2.2.2.2.2.2.2.2.2.1),(World.cell?_of_block (w:=w5) (hP.2 _ (by show ad6.block≠gx;omega))).trans (hHeld.2.2.2.2.2.2.2.2.2.2.2.2.2.1),(World.cell?_of_block (w:=w5) (hP.2 _ (by show ad6.block≠gx;omega))).trans (hHeld.2.2.2.2.2.2.2.2.2.2.2.2.2.2.1),(World.cell?_of_block (w:=w5) (hP.2 _ (by show ad6.block≠gx;omega))).trans (hHeld.2.2.2.2.2.2.2.2.2.2.2.2.2.2.2.1),(World.cell?_of_block (w:=w5) (hP.2 _ (by show ad6.block≠gx;omega))).trans (hHeld.2.2.2.2.2.2.2.2.2.2.2.2.2.2.2.2)⟩ (fun _=>?_)
 clear hK K
 have HS:=Aside0.mk (HF5.put (W1:=(((((((((w5.setCell ⟨gx,0,none⟩ (.int .i64 0)).setCell ⟨gx,1,none⟩ (.int .i64 3)).setCell ⟨gx,2,none⟩ (.int .i64 0)).setCell ⟨gx,3,none⟩ (.int .i64 0)).setCell ⟨gx,4,none⟩ (.bool true)).setCell ⟨gx,5,none⟩ (.int .i64 1)).setCell ⟨gx,6,none⟩ (.slice x6 1 x6')).setCell ⟨gx,7,none⟩ (.slice x7 3 x7')).setCell ⟨gx,8,none⟩ (.slice x8 0 x8'))) (by simp [World.setCell]) hP.1 hP.2)
 have HB:=Aside0.mk (put9_below HB5 (g:=gx) (by have:=HB0.out;omega) (.int .i64 0) (.int .i64 3) (.int .i64 0) (.int .i64 0) (.bool true) (.int .i64 1) (.slice x6 1 x6') (.slice x7 3 x7') (.slice x8 0 x8'))
 clear hP HF5 HB5 hbox hHeld hz5 hgin' had' hs0 hf0 hs1 hf1 hs2 hf2 hs3 hf3 hs4 hf4 hs5 hf5 hs6 hf6 hs7 hf7 hs8 hf8
 generalize (((((((((w5.setCell ⟨gx,0,none⟩ (.int .i64 0)).setCell ⟨gx,1,none⟩ (.int .i64 3)).setCell ⟨gx,2,none⟩ (.int .i64 0)).setCell ⟨gx,3,none⟩ (.int .i64 0)).setCell ⟨gx,4,none⟩ (.bool true)).setCell ⟨gx,5,none⟩ (.int .i64 1)).setCell ⟨gx,6,none⟩ (.slice x6 1 x6')).setCell ⟨gx,7,none⟩ (.slice x7 3 x7')).setCell ⟨gx,8,none⟩ (.slice x8 0 x8'))=we at HS HB ⊢
 refine pure_ (i:=11) (N:=some 12) (v:=?_) (a':=?_) #[true,true,true,true,true,true,true,true,true,true,true,true,false] rfl rfl (any_of HT_.out (by kernel_rfl)) (fun _ _ _ h=>h) (Or.inl ⟨by rfl,?_⟩) ?_ ?_
 rotate_left
 ·intro w'
  go_simp
  with_reducible rfl
 rotate_left
 ·simp only [Act.put,List.setIfInBounds_toArray,List.set_cons_zero,List.set_cons_succ,i64_w,i32_w]
  rfl
 refine pure_ (i:=12) (N:=some 13) (v:=?_) (a':=?_) #[true,true,true,true,true,true,true,true,true,true,true,true,true] rfl rfl (any_of HT_.out (by kernel_rfl)) (fun _ _ _ h=>h) (Or.inl ⟨by rfl,?_⟩) ?_ ?_
 rotate_left
 ·intro w'
  go_simp
  with_reducible rfl
 rotate_left
 ·simp only [Act.put,List.setIfInBounds_toArray,List.set_cons_zero,List.set_cons_succ,i64_w,i32_w]
  rfl
 refine done_ (done_of HT_.out (by kernel_rfl)) ?_
 clear HT_ HW_
 clear HZL HB0
 have q0:we.cell? ⟨gd,0,none⟩=some (.int .i64 1):=blk_cell HS.out.here.2.2.1 0
 have q1:we.cell? ⟨gd,1,none⟩=some (.int .i64 3):=blk_cell HS.out.here.2.2.1 1
 have q2:we.cell? ⟨gd,2,none⟩=some (.int .i64 0):=blk_cell HS.out.here.2.2.1 2
 have q3:we.cell? ⟨gd,3,none⟩=some (.int .i64 0):=blk_cell HS.out.here.2.2.1 3
 have q4:we.cell? ⟨gd,4,none⟩=some (.bool true):=blk_cell HS.out.here.2.2.1 4
 have q5:we.cell? ⟨gd,5,none⟩=some (.int .i64 0):=blk_cell HS.out.here.2.2.1 5
 have q6:we.cell? ⟨gd,6,none⟩=some (.slice d6 1 d6'):=blk_cell HS.out.here.2.2.1 6
 have q7:we.cell? ⟨gd,7,none⟩=some (.slice d7 3 d7'):=blk_cell HS.out.here.2.2.1 7
 have q8:we.cell? ⟨gd,8,none⟩=some (.slice d8 0 d8'):=blk_cell HS.out.here.2.2.1 8
 go_wp2_with (fail)
 go_at_call 8
 with_reducible refine (w_timeout _ _ _ _ _ _ _ HS.out.here.2.2.2.2.1).mono ?_
 rintro e w7 ⟨y6,y6',y7,y7',y8,y8',o6,o6',rfl,hA,h9,hC,hb,hK⟩
 have HS7:=Aside0.mk (show Stays (w7.alloc (.cells #[.int .i64 1,.int .i64 3,.int .i64 1,.int .i64 0,.bool false,.int .i64 0,.slice y6 1 y6',.slice y7 3 y7',.slice y8 1 y8'] 26)) (fun W=>W.heap[gx]?=some (.cells #[.int .i64 0,.int .i64 3,.int .i64 0,.int .i64 0,.bool true,.int .i64 1,.slice x6 1 x6',.slice x7 3 x7',.slice x8 0 x8'] 26 (0,0))∧W.heap[w2.heap.size]?=some (.cells #[.int .i64 1,.int .i64 3,.int .i64 0,.int .i64 0,.bool true,.int .i64 0,.slice b6 0 b6',.slice b7 3 b7',.slice b8 0 b8'] 26 (0,0))∧W.heap[w7.heap.size]?=some (.cells #[.int .i64 1,.int .i64 3,.int .i64 1,.int .i64 0,.bool false,.int .i64 0,.slice y6 1 y6',.slice y7 3 y7',.slice y8 1 y8'] 26 (0,0))∧Arg W (⟨1,3,0,0,true,0,[],[0,0,0],[],[]⟩:Nod) b6 b7 b8 b6' b7' b8'∧Arg W (⟨0,3,0,0,true,1,[⟨#[97]⟩],[1,1,0],[],[⟨1,0,1,0,0,1,0,[⟨#[97]⟩]⟩,⟨1,0,2,0,0,1,0,[⟨#[97]⟩]⟩]⟩:Nod) x6 x7 x8 x6' x7' x8'∧Kd.C k28 W u6 2 [(⟨1,0,1,0,0,1,0,[⟨#[97]⟩]⟩:S28),⟨1,0,2,0,0,1,0,[⟨#[97]⟩]⟩]) from (((HS.out.below hb).alloc (.cells #[.int .i64 1,.int .i64 3,.int .i64 1,.int .i64 0,.bool false,.int .i64 0,.slice y6 1 y6',.slice y7 3 y7',.slice y8 1 y8'] 26)).and (Stays.new w7 (.cells #[.int .i64 1,.int .i64 3,.int .i64 1,.int .i64 0,.bool false,.int .i64 0,.slice y6 1 y6',.slice y7 3 y7',.slice y8 1 y8'] 26))).mono (fun W' h=>⟨h.1.1,h.1.2.1,h.2,h.1.2.2.2.1,h.1.2.2.2.2.2.2.1,h.1.2.2.2.2.2.2.2⟩))
 have HB7:=Aside0.mk (below_alloc (below_step HB.out hb) (.cells #[.int .i64 1,.int .i64 3,.int .i64 1,.int .i64 0,.bool false,.int .i64 0,.slice y6 1 y6',.slice y7 3 y7',.slice y8 1 y8'] 26))
 clear HS HB hA h9 hC hb hK q0 q1 q2 q3 q4 q5 q6 q7 q8
 have q0:(w7.alloc (.cells #[.int .i64 1,.int .i64 3,.int .i64 1,.int .i64 0,.bool false,.int .i64 0,.slice y6 1 y6',.slice y7 3 y7',.slice y8 1 y8'] 26)).cell? ⟨w2.heap.size,0,none⟩=some (.int .i64 1):=blk_cell HS7.out.here.2.1 0
 have q1:(w7.alloc (.cells #[.int .i64 1,.int .i64 3,.int .i64 1,.int .i64 0,.bool false,.int .i64 0,.slice y6 1 y6',.slice y7 3 y7',.slice y8 1 y8'] 26)).cell? ⟨w2.heap.size,1,none⟩=some (.int .i64 3):=blk_cell HS7.out.here.2.1 1
 have q2:(w7.alloc (.cells #[.int .i64 1,.int .i64 3,.int .i64 1,.int .i64 0,.bool false,.int .i64 0,.slice y6 1 y6',.slice y7 3 y7',.slice y8 1 y8'] 26)).cell? ⟨w2.heap.size,2,none⟩=some (.int .i64 0):=blk_cell HS7.out.here.2.1 2
 have q3:(w7.alloc (.cells #[.int .i64 1,.int .i64 3,.int .i64 1,.int .i64 0,.bool false,.int .i64 0,.slice y6 1 y6',.slice y7 3 y7',.slice y8 1 y8'] 26)).cell? ⟨w2.heap.size,3,none⟩=some (.int .i64 0):=blk_cell HS7.out.here.2.1 3
 have q4:(w7.alloc (.cells #[.int .i64 1,.int .i64 3,.int .i64 1,.int .i64 0,.bool false,.int .i64 0,.slice y6 1 y6',.slice y7 3 y7',.slice y8 1 y8'] 26)).cell? ⟨w2.heap.size,4,none⟩=some (.bool true):=blk_cell HS7.out.here.2.1 4
 have q5:(w7.alloc (.cells #[.int .i64 1,.int .i64 3,.int .i64 1,.int .i64 0,.bool false,.int .i64 0,.slice y6 1 y6',.slice y7 3 y7',.slice y8 1 y8'] 26)).cell? ⟨w2.heap.size,5,none⟩=some (.int .i64 0):=blk_cell HS7.out.here.2.1 5
 have q6:(w7.alloc (.cells #[.int .i64 1,.int .i64 3,.int .i64 1,.int .i64 0,.bool false,.int .i64 0,.slice y6 1 y6',.slice y7 3 y7',.slice y8 1 y8'] 26)).cell? ⟨w2.heap.size,6,none⟩=some (.slice b6 0 b6'):=blk_cell HS7.out.here.2.1 6
 have q7:(w7.alloc (.cells #[.int .i64 1,.int .i64 3,.int .i64 1,.int .i64 0,.bool false,.int .i64 0,.slice y6 1 y6',.slice y7 3 y7',.slice y8 1 y8'] 26)).cell? ⟨w2.heap.size,7,none⟩=some (.slice b7 3 b7'):=blk_cell HS7.out.here.2.1 7
 have q8:(w7.alloc (.cells #[.int .i64 1,.int .i64 3,.int .i64 1,.int .i64 0,.bool false,.int .i64 0,.slice y6 1 y6',.slice y7 3 y7',.slice y8 1 y8'] 26)).cell? ⟨w2.heap.size,8,none⟩=some (.slice b8 0 b8'):=blk_cell HS7.out.here.2.1 8
 go_wp2_with (fail)
 go_at_call 6
 with_reducible refine (w_ask2 _ _ _ _ _ _ _ HS7.out.here.2.2.2.1).mono ?_
 rintro e w8 ⟨r6,r6',r7,r7',r8,r8',v6,v6',rfl,hb⟩
 have HS8:=Aside0.mk ((HS7.out.below hb).alloc (.cells #[.int .i64 0,.int .i64 0,.int .i64 0,.int .i64 0,.bool false,.int .i64 0,.slice r6 0 r6',.slice r7 0 r7',.slice r8 0 r8'] 26))
 have HB8:=Aside0.mk (below_alloc (below_step HB7.out hb) (.cells #[.int .i64 0,.int .i64 0,.int .i64 0,.int .i64 0,.bool false,.int .i64 0,.slice r6 0 r6',.slice r7 0 r7',.slice r8 0 r8'] 26))
 clear HS7 HB7 hb q0 q1 q2 q3 q4 q5 q6 q7 q8
 have q0:(w8.alloc (.cells #[.int .i64 0,.int .i64 0,.int .i64 0,.int .i64 0,.bool false,.int .i64 0,.slice r6 0 r6',.slice r7 0 r7',.slice r8 0 r8'] 26)).cell? ⟨gx,0,none⟩=some (.int .i64 0):=blk_cell HS8.out.here.1 0
 have q1:(w8.alloc (.cells #[.int .i64 0,.int .i64 0,.int .i64 0,.int .i64 0,.bool false,.int .i64 0,.slice r6 0 r6',.slice r7 0 r7',.slice r8 0 r8'] 26)).cell? ⟨gx,1,none⟩=some (.int .i64 3):=blk_cell HS8.out.here.1 1
 have q2:(w8.alloc (.cells #[.int .i64 0,.int .i64 0,.int .i64 0,.int .i64 0,.bool false,.int .i64 0,.slice r6 0 r6',.slice r7 0 r7',.slice r8 0 r8'] 26)).cell? ⟨gx,2,none⟩=some (.int .i64 0):=blk_cell HS8.out.here.1 2
 have q3:(w8.alloc (.cells #[.int .i64 0,.int .i64 0,.int .i64 0,.int .i64 0,.bool false,.int .i64 0,.slice r6 0 r6',.slice r7 0 r7',.slice r8 0 r8'] 26)).cell? ⟨gx,3,none⟩=some (.int .i64 0):=blk_cell HS8.out.here.1 3
 have q4:(w8.alloc (.cells #[.int .i64 0,.int .i64 0,.int .i64 0,.int .i64 0,.bool false,.int .i64 0,.slice r6 0 r6',.slice r7 0 r7',.slice r8 0 r8'] 26)).cell? ⟨gx,4,none⟩=some (.bool true):=blk_cell HS8.out.here.1 4
 have q5:(w8.alloc (.cells #[.int .i64 0,.int .i64 0,.int .i64 0,.int .i64 0,.bool false,.int .i64 0,.slice r6 0 r6',.slice r7 0 r7',.slice r8 0 r8'] 26)).cell? ⟨gx,5,none⟩=some (.int .i64 1):=blk_cell HS8.out.here.1 5
 have q6:(w8.alloc (.cells #[.int .i64 0,.int .i64 0,.int .i64 0,.int .i64 0,.bool false,.int .i64 0,.slice r6 0 r6',.slice r7 0 r7',.slice r8 0 r8'] 26)).cell? ⟨gx,6,none⟩=some (.slice x6 1 x6'):=blk_cell HS8.out.here.1 6
 have q7:(w8.alloc (.cells #[.int .i64 0,.int .i64 0,.int .i64 0,.int .i64 0,.bool false,.int .i64 0,.slice r6 0 r6',.slice r7 0 r7',.slice r8 0 r8'] 26)).cell? ⟨gx,7,none⟩=some (.slice x7 3 x7'):=blk_cell HS8.out.here.1 7
 have q8:(w8.alloc (.cells #[.int .i64 0,.int .i64 0,.int .i64 0,.int .i64 0,.bool false,.int .i64 0,.slice r6 0 r6',.slice r7 0 r7',.slice r8 0 r8'] 26)).cell? ⟨gx,8,none⟩=some (.slice x8 0 x8'):=blk_cell HS8.out.here.1 8
 have y0:(w8.alloc (.cells #[.int .i64 0,.int .i64 0,.int .i64 0,.int .i64 0,.bool false,.int .i64 0,.slice r6 0 r6',.slice r7 0 r7',.slice r8 0 r8'] 26)).cell? ⟨w7.heap.size,0,none⟩=some (.int .i64 1):=blk_cell HS8.out.here.2.2.1 0
 have y1:(w8.alloc (.cells #[.int .i64 0,.int .i64 0,.int .i64 0,.int .i64 0,.bool false,.int .i64 0,.slice r6 0 r6',.slice r7 0 r7',.slice r8 0 r8'] 26)).cell? ⟨w7.heap.size,1,none⟩=some (.int .i64 3):=blk_cell HS8.out.here.2.2.1 1
 have y2:(w8.alloc (.cells #[.int .i64 0,.int .i64 0,.int .i64 0,.int .i64 0,.bool false,.int .i64 0,.slice r6 0 r6',.slice r7 0 r7',.slice r8 0 r8'] 26)).cell? ⟨w7.heap.size,2,none⟩=some (.int .i64 1):=blk_cell HS8.out.here.2.2.1 2
 have y3:(w8.alloc (.cells #[.int .i64 0,.int .i64 0,.int .i64 0,.int .i64 0,.bool false,.int .i64 0,.slice r6 0 r6',.slice r7 0 r7',.slice r8 0 r8'] 26)).cell? ⟨w7.heap.size,3,none⟩=some (.int .i64 0):=blk_cell HS8.out.here.2.2.1 3
 have y4:(w8.alloc (.cells #[.int .i64 0,.int .i64 0,.int .i64 0,.int .i64 0,.bool false,.int .i64 0,.slice r6 0 r6',.slice r7 0 r7',.slice r8 0 r8'] 26)).cell? ⟨w7.heap.size,4,none⟩=some (.bool false):=blk_cell HS8.out.here.2.2.1 4
 have y5:(w8.alloc (.cells #[.int .i64 0,.int .i64 0,.int .i64 0,.int .i64 0,.bool false,.int .i64 0,.slice r6 0 r6',.slice r7 0 r7',.slice r8 0 r8'] 26)).cell? ⟨w7.heap.size,5,none⟩=some (.int .i64 0):=blk_cell HS8.out.here.2.2.1 5
 have y6:(w8.alloc (.cells #[.int .i64 0,.int .i64 0,.int .i64 0,.int .i64 0,.bool false,.int .i64 0,.slice r6 0 r6',.slice r7 0 r7',.slice r8 0 r8'] 26)).cell? ⟨w7.heap.size,6,none⟩=some (.slice y6 1 y6'):=blk_cell HS8.out.here.2.2.1 6
 have y7:(w8.alloc (.cells #[.int .i64 0,.int .i64 0,.int .i64 0,.int .i64 0,.bool false,.int .i64 0,.slice r6 0 r6',.slice r7 0 r7',.slice r8 0 r8'] 26)).cell? ⟨w7.heap.size,7,none⟩=some (.slice y7 3 y7'):=blk_cell HS8.out.here.2.2.1 7
 have y8:(w8.alloc (.cells #[.int .i64 0,.int .i64 0,.int .i64 0,.int .i64 0,.bool false,.int .i64 0,.slice r6 0 r6',.slice r7 0 r7',.slice r8 0 r8'] 26)).cell? ⟨w7.heap.size,8,none⟩=some (.slice y8 1 y8'):=blk_cell HS8.out.here.2.2.1 8
 obtain ⟨ad8,zM,zm,ze,z0,z1,z2,z3,z4,z5,z6,z7,zl,zh⟩:=at_T28 HS8.out.here.2.2.2.2.2 1 (by decide) (by decide)
 cases ze
 simp only [show (1:Int).toNat=1 from rfl,Nat.zero_mul,Nat.one_mul] at z0 z1 z2 z3 z4 z5 z6 z7
 change _=some (Value.int .i64 1) at z0
 change _=some (Value.int .i64 0) at z1
 change _=some (Value.int .i64 2) at z2
 change _=some (Value.int .i64 0) at z3
 change _=some (Value.int .i64 0) at z4
 change _=some (Value.int .i64 1) at z5
 change _=some (Value.int .i64 0) at z6
 change _=some (Value.slice zM 1 zm) at z7
 change (w8.alloc (.cells #[.int .i64 0,.int .i64 0,.int .i64 0,.int .i64 0,.bool false,.int .i64 0,.slice r6 0 r6',.slice r7 0 r7',.slice r8 0 r8'] 26)).cell? ⟨ad8.block,ad8.off+8+5,none⟩=_ at z5
 clear z0 z1 z2 z3 z4 z6 z7 zh zl
 go_wp2_with ((go_at_call 20;with_reducible refine (w_is _ _ _ _ _ _ _ HS8.out.here.2.2.2.2.1).mono ?_;rintro e w9 ⟨rfl,hb⟩;have HB9:=Aside0.mk (below_step HB8.out hb);clear hb))
 go_ret
 exact ⟨rfl,HB9.out⟩
end
end Go.Proofs.YtfpfpckocemmdaaGreat.P
