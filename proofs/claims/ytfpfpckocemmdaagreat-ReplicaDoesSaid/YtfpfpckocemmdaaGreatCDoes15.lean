/- Part 15 of the walk. -/
import Derived.Test.YtfpfpckocemmdaaGreatCDoes14
set_option linter.unusedVariables false
set_option linter.unusedSimpArgs false
set_option maxHeartbeats 8000000
set_option maxRecDepth 100000
namespace Go.Proofs.YtfpfpckocemmdaaGreat.P
open Go.RowKit Go.Proofs.YtfpfpckocemmdaaGreatW.PrintWords Go.Proofs.YtfpfpckocemmdaaGreatW.PrintLast Go.Proofs.YtfpfpckocemmdaaGreatW.PrintMore
theorem nd_make {W:World} {base:Nat} {x:Nod} {v6 v7 v8:Value} {P8:Nat→Prop} {ok6 ok7:Nat→Prop} (hb:base≤W.heap.size) (h6:Kd.R Kd.string 9 W base ok6 v6 x.log) (h7:Kd.R (Kd.int .i64) 3 W base ok7 v7 x.acks) (h8:Kd.S k63 63 W base P8 v8 x.votes) (ht:x.told=[])
  (h86:∀ k,P8 k→some k≠v6.ownBlock∧some k≠v7.ownBlock) :
  Nd (W.alloc (.cells (x.cells v6 v7 v8 (.slice none 0 0)) 56)) base W.heap.size (fun k=>base≤k) x:=by
 have t6:=Kd.R_bound (Kd.R_tight rfl h6)
 have t7:=Kd.R_bound (Kd.R_tight rfl h7)
 have t8:=Kd.S_bound h8
 refine ⟨v6,v7,v8,.slice none 0 0,_,_,_,fun _=>False,x_alloc_new _ _,hb,hb,Kd.R_alloc t6 _,Kd.R_alloc t7 _,Kd.S_alloc t8 _,by rw [ht];exact Kd.S_nil _ _ _ _ _,?_,?_,?_,fun k _ h=>h⟩
 ·rintro k (hk | hk | hk | hk)
  ·exact ⟨hk.2.1,by have:=hk.2.2.1;omega⟩
  ·exact ⟨hk.2.1,by have:=hk.2.2.1;omega⟩
  ·exact ⟨hk.2.1,by have:=hk.2.2.1;omega⟩
  ·exact hk.elim
 ·intro k hk
  refine ⟨fun h=>?_,fun h=>(h86 k h.1).1 hk.1,fun h=>h⟩
  obtain ⟨_,_,_,q,hq,cs,hc⟩:=hk
  obtain ⟨_,_,_,q2,hq2,cs2,hc2⟩:=h
  rw [hc] at hc2
  injection hc2 with hc2
  injection hc2 with _ h3 _
  have e1:q=9:=by simpa [Kd.string,Kd.scalar] using hq
  have e2:q2=3:=by simpa [Kd.int,Kd.scalar] using hq2
  rw [e1,e2] at h3
  exact absurd h3 (by decide)
 ·exact fun k hk=>⟨fun h=>(h86 k h.1).2 hk.1,fun h=>h⟩
def readd (l:List S63):List S63:=l.foldl addTo []
def Nod.opened (x:Nod):Nod:={ x with votes:=readd x.votes,told:=[] }
theorem readd_append (l:List S63) (v:S63):readd (l++[v])=addTo (readd l) v:=by unfold readd;rw [List.foldl_append];rfl
theorem readd_mem_go (l:List S63):∀ (a:List S63) v,v∈l.foldl addTo a→v∈a∨v∈l:=by
 induction l with
 | nil=>exact fun a v hv=>.inl hv
 | cons u l ih =>
  intro a v hv
  rw [List.foldl_cons] at hv
  rcases ih _ v hv with h | h
  ·unfold addTo at h
   rw [List.mem_append] at h
   rcases h with h | h
   ·exact .inl (List.mem_filter.1 h).1
   ·exact .inr (by rw [List.mem_singleton.1 h];exact List.mem_cons_self)
  ·exact .inr (List.mem_cons_of_mem _ h)
theorem readd_mem (l:List S63):∀ v,v∈readd l→v∈l:=fun v hv=>(readd_mem_go l [] v hv).elim (fun h=>absurd h (by simp)) id
theorem readd_length_go (l:List S63):∀ a:List S63,(l.foldl addTo a).length≤a.length+l.length:=by
 induction l with
 | nil=>exact fun a=>Nat.le_refl _
 | cons u l ih =>
  intro a
  rw [List.foldl_cons]
  have h1:=ih (addTo a u)
  have h2:=addTo_length a u
  simp only [List.length_cons]
  omega
theorem readd_length (l:List S63):(readd l).length≤l.length:=by have:=readd_length_go l [];simpa [readd] using this
@[reducible] def ldLog (n:Nat):Op:=Op.load 22 (Operand.tmp n)
theorem ldLog_eq (n:Nat):Op.load 22 (Operand.tmp n)=ldLog n:=rfl
@[reducible] def ldAcks (n:Nat):Op:=Op.load 23 (Operand.tmp n)
theorem ldAcks_eq (n:Nat):Op.load 23 (Operand.tmp n)=ldAcks n:=rfl
theorem open_not (id n view last:Int) (works:Bool) (commit:Int) (log:List ByteArray) (acks:List Int) (votes:List S63) (told:List S28) (A6 A7 A8:Option Addr) (c6 c7 c8:Nat) (w:World) (h6:Kd.C Kd.string w A6 log.length log) (l6:log.length≤c6) (h7:Kd.C (Kd.int .i64) w A7 acks.length acks) (l7:acks.length≤c7) (h8:Kd.C k63 w A8 votes.length votes) (l8:votes.length≤c8)
  (hl:log.length < 4398046511104) (ha:acks.length < 4398046511104) (hvl:votes.length < 4398046511104) (hv:∀ v,v∈votes→v.f3.length < 4398046511104∧(Lit.int .i64 v.f0).wf=true) (his:isB ⟨id,n,view,last,works,commit,log,acks,votes,told⟩=false) :
  Calls Tryz.prog 27 #[.agg #[id,n,view,last,works,commit,.slice A6 log.length c6,.slice A7 acks.length c7,.slice A8 votes.length c8]] w fun e w'=>e=.panicked [{ v:=.iface 32 (.int .i64 1),recovered:=false }]∧Below w.heap.size w w':=by
 have hu26:=Tryz.underlying26
 have H15:=sd ((is_calls id n view last works commit log acks votes told A6 A7 A8 c6 c7 c8 (w.alloc (.cells #[id,n,view,last,works,commit,.slice A6 log.length c6,.slice A7 acks.length c7,.slice A8 votes.length c8] 26)) (Kd.C_alloc h6 _) l6 (Kd.C_alloc h7 _) l7 (Kd.C_alloc h8 _) l8 hl ha hvl hv).mono (R':=fun e w'=>e=.returned false∧Below (w.alloc (.cells #[id,n,view,last,works,commit,.slice A6 log.length c6,.slice A7 acks.length c7,.slice A8 votes.length c8] 26)).heap.size (w.alloc (.cells #[id,n,view,last,works,commit,.slice A6 log.length c6,.slice A7 acks.length c7,.slice A8 votes.length c8] 26)) w') (fun e w' h=>⟨by rw [h.1,his],h.2⟩))
 have hx0:(w.alloc (.cells #[id,n,view,last,works,commit,.slice A6 log.length c6,.slice A7 acks.length c7,.slice A8 votes.length c8] 26)).cell? ⟨w.heap.size,0,none⟩=some (.int .i64 id):=blk_cell (x_alloc_new w _) 0
 have hx1:(w.alloc (.cells #[id,n,view,last,works,commit,.slice A6 log.length c6,.slice A7 acks.length c7,.slice A8 votes.length c8] 26)).cell? ⟨w.heap.size,1,none⟩=some (.int .i64 n):=blk_cell (x_alloc_new w _) 1
 have hx2:(w.alloc (.cells #[id,n,view,last,works,commit,.slice A6 log.length c6,.slice A7 acks.length c7,.slice A8 votes.length c8] 26)).cell? ⟨w.heap.size,2,none⟩=some (.int .i64 view):=blk_cell (x_alloc_new w _) 2
 have hx3:(w.alloc (.cells #[id,n,view,last,works,commit,.slice A6 log.length c6,.slice A7 acks.length c7,.slice A8 votes.length c8] 26)).cell? ⟨w.heap.size,3,none⟩=some (.int .i64 last):=blk_cell (x_alloc_new w _) 3
 have hx4:(w.alloc (.cells #[id,n,view,last,works,commit,.slice A6 log.length c6,.slice A7 acks.length c7,.slice A8 votes.length c8] 26)).cell? ⟨w.heap.size,4,none⟩=some (.bool works):=blk_cell (x_alloc_new w _) 4
 have hx5:(w.alloc (.cells #[id,n,view,last,works,commit,.slice A6 log.length c6,.slice A7 acks.length c7,.slice A8 votes.length c8] 26)).cell? ⟨w.heap.size,5,none⟩=some (.int .i64 commit):=blk_cell (x_alloc_new w _) 5
 have hx6:(w.alloc (.cells #[id,n,view,last,works,commit,.slice A6 log.length c6,.slice A7 acks.length c7,.slice A8 votes.length c8] 26)).cell? ⟨w.heap.size,6,none⟩=some (.slice A6 log.length c6):=blk_cell (x_alloc_new w _) 6
 have hx7:(w.alloc (.cells #[id,n,view,last,works,commit,.slice A6 log.length c6,.slice A7 acks.length c7,.slice A8 votes.length c8] 26)).cell? ⟨w.heap.size,7,none⟩=some (.slice A7 acks.length c7):=blk_cell (x_alloc_new w _) 7
 have hx8:(w.alloc (.cells #[id,n,view,last,works,commit,.slice A6 log.length c6,.slice A7 acks.length c7,.slice A8 votes.length c8] 26)).cell? ⟨w.heap.size,8,none⟩=some (.slice A8 votes.length c8):=blk_cell (x_alloc_new w _) 8
 clear h6 l6 h7 l7 h8 l8 hl ha hvl hv his
 have hpn:∀ W:World,(Instr.panic (.iface 32 (.int .i64 1))).run Tryz.prog W=.halt (.panic (.iface 32 (.int .i64 1))) W:=fun _=>rfl
 go_enter Tryz.func27,Tryz.ntmps27
 go_wp2_with ((go_at_call 20;refine H15.out.mono ?_;rintro e w5 ⟨rfl,hb5⟩;have HB5:=sd hb5;clear hb5))
 exact ⟨rfl,rfl,below_step (below_alloc (Below.refl _ _) _) HB5.out⟩
theorem open_is (id n view last:Int) (works:Bool) (commit:Int) (log:List ByteArray) (acks:List Int) (votes:List S63) (told:List S28) (A6 A7 A8:Option Addr) (c6 c7 c8:Nat) (w:World) (h6:Kd.C Kd.string w A6 log.length log) (l6:log.length≤c6) (h7:Kd.C (Kd.int .i64) w A7 acks.length acks) (l7:acks.length≤c7) (h8:Kd.C k63 w A8 votes.length votes) (l8:votes.length≤c8)
  (hl:log.length < 4398046511104) (ha:acks.length < 4398046511104) (hvl:votes.length < 4398046511104) (hv:∀ v,v∈votes→v.f3.length < 4398046511104∧(Lit.int .i64 v.f0).wf=true) (his:isB ⟨id,n,view,last,works,commit,log,acks,votes,told⟩=true) (hvs:votes.length≤900) (hvt:∀ v,v∈votes→v.f3.length≤1000) :
  Calls Tryz.prog 27 #[.agg #[id,n,view,last,works,commit,.slice A6 log.length c6,.slice A7 acks.length c7,.slice A8 votes.length c8]] w fun e w'=>∃ g,e=.returned (.pointer (some ⟨g,0,none⟩))∧Nd w' w.heap.size g (fun k=>w.heap.size≤k) (Nod.opened ⟨id,n,view,last,works,commit,log,acks,votes,told⟩)∧Below w.heap.size w w':=by
 have hu26:=Tryz.underlying26
 have hu63:=Tryz.underlying63
 have hu56:=Tryz.underlying56
 have H15:=sd ((is_calls id n view last works commit log acks votes told A6 A7 A8 c6 c7 c8 (w.alloc (.cells #[id,n,view,last,works,commit,.slice A6 log.length c6,.slice A7 acks.length c7,.slice A8 votes.length c8] 26)) (Kd.C_alloc h6 _) l6 (Kd.C_alloc h7 _) l7 (Kd.C_alloc h8 _) l8 hl ha hvl hv).mono (R':=fun e w'=>e=.returned true∧Below (w.alloc (.cells #[id,n,view,last,works,commit,.slice A6 log.length c6,.slice A7 acks.length c7,.slice A8 votes.length c8] 26)).heap.size (w.alloc (.cells #[id,n,view,last,works,commit,.slice A6 log.length c6,.slice A7 acks.length c7,.slice A8 votes.length c8] 26)) w') (fun e w' h=>⟨by rw [h.1,his],h.2⟩))
 have hx0:(w.alloc (.cells #[id,n,view,last,works,commit,.slice A6 log.length c6,.slice A7 acks.length c7,.slice A8 votes.length c8] 26)).cell? ⟨w.heap.size,0,none⟩=some (.int .i64 id):=blk_cell (x_alloc_new w _) 0
 have hx1:(w.alloc (.cells #[id,n,view,last,works,commit,.slice A6 log.length c6,.slice A7 acks.length c7,.slice A8 votes.length c8] 26)).cell? ⟨w.heap.size,1,none⟩=some (.int .i64 n):=blk_cell (x_alloc_new w _) 1
 have hx2:(w.alloc (.cells #[id,n,view,last,works,commit,.slice A6 log.length c6,.slice A7 acks.length c7,.slice A8 votes.length c8] 26)).cell? ⟨w.heap.size,2,none⟩=some (.int .i64 view):=blk_cell (x_alloc_new w _) 2
 have hx3:(w.alloc (.cells #[id,n,view,last,works,commit,.slice A6 log.length c6,.slice A7 acks.length c7,.slice A8 votes.length c8] 26)).cell? ⟨w.heap.size,3,none⟩=some (.int .i64 last):=blk_cell (x_alloc_new w _) 3
 have hx4:(w.alloc (.cells #[id,n,view,last,works,commit,.slice A6 log.length c6,.slice A7 acks.length c7,.slice A8 votes.length c8] 26)).cell? ⟨w.heap.size,4,none⟩=some (.bool works):=blk_cell (x_alloc_new w _) 4
 have hx5:(w.alloc (.cells #[id,n,view,last,works,commit,.slice A6 log.length c6,.slice A7 acks.length c7,.slice A8 votes.length c8] 26)).cell? ⟨w.heap.size,5,none⟩=some (.int .i64 commit):=blk_cell (x_alloc_new w _) 5
 have hx6:(w.alloc (.cells #[id,n,view,last,works,commit,.slice A6 log.length c6,.slice A7 acks.length c7,.slice A8 votes.length c8] 26)).cell? ⟨w.heap.size,6,none⟩=some (.slice A6 log.length c6):=blk_cell (x_alloc_new w _) 6
 have hx7:(w.alloc (.cells #[id,n,view,last,works,commit,.slice A6 log.length c6,.slice A7 acks.length c7,.slice A8 votes.length c8] 26)).cell? ⟨w.heap.size,7,none⟩=some (.slice A7 acks.length c7):=blk_cell (x_alloc_new w _) 7
 have hx8:(w.alloc (.cells #[id,n,view,last,works,commit,.slice A6 log.length c6,.slice A7 acks.length c7,.slice A8 votes.length c8] 26)).cell? ⟨w.heap.size,8,none⟩=some (.slice A8 votes.length c8):=blk_cell (x_alloc_new w _) 8
 have HM6:=sd (fun (W:World) (hb:Below w.heap.size w W)=>Kd.C_below h6 hb)
 have HM7:=sd (fun (W:World) (hb:Below w.heap.size w W)=>Kd.C_below h7 hb)
 have HM8:=sd (fun (W:World) (hb:Below w.heap.size w W)=>Kd.C_below h8 hb)
 have L6:=sd l6
 have L7:=sd l7
 have L8:=sd l8
 have HC6:=sd (show slices_Clone_string_string.f log=some log from if_pos hl)
 have HC7:=sd (show slices_Clone_int_int.f acks=some acks from if_pos ha)
 have HVS:=sd hvs
 have HVT:=sd hvt
 clear h6 l6 h7 l7 h8 l8 hl ha hvl hv his hvs hvt
 go_enter Tryz.func27,Tryz.ntmps27
 go_wp2_with ((go_at_call 20;refine H15.out.mono ?_;rintro e w5 ⟨rfl,hb5⟩;have HB5:=sd (below_step (below_alloc (Below.refl _ _) _) hb5);have HBX5:=sd ((hb5.block w.heap.size (by simp)).trans (x_alloc_new w (.cells #[id,n,view,last,works,commit,.slice A6 log.length c6,.slice A7 acks.length c7,.slice A8 votes.length c8] 26)));clear hb5))
 clear hx0 hx1 hx2 hx3 hx4 hx5 hx6 hx7 hx8
 go_cut [] (fun wx=>∃ (B6:Option Addr) (d6:Nat) (B7:Option Addr) (d7:Nat),Aside0 (wx.heap[w.heap.size]?=some (.cells #[id,n,view,last,works,commit,.slice B6 log.length d6,.slice B7 acks.length d7,.slice A8 votes.length c8] 26 (0,0)))∧Aside0 (Kd.R Kd.string 9 wx (w.heap.size+1) (fun k=>w.heap.size+1≤k) (.slice B6 log.length d6) log)∧Aside0 (Kd.R (Kd.int .i64) 3 wx (w.heap.size+1) (fun k=>w.heap.size+1≤k) (.slice B7 acks.length d7) acks)∧Aside0 (Below w.heap.size w wx))
 case first =>
  have HBz:=sd (show Below w.heap.size w w5.drew from below_drew HB5.out)
  have HBXz:=sd (show w5.drew.heap[w.heap.size]?=_ from HBX5.out)
  have hy6:w5.cell? ⟨w.heap.size,6,none⟩=some (.slice A6 log.length c6):=blk_cell HBX5.out 6
  have hy7:w5.cell? ⟨w.heap.size,7,none⟩=some (.slice A7 acks.length c7):=blk_cell HBX5.out 7
  rw [ldLog_eq 10,ldAcks_eq 13]
  go_region_held3 (fun _=>True) (trivial)
   (first | (refine x_step_call rfl Tryz.func66 (by kernel_rfl) rfl #[.slice A6 log.length c6] rfl (by simp [Act.eval,Act.put]) ?_;refine (slices_Clone_string_string.calls A6 c6 log log _ (HM6.out _ HBz.out) L6.out HC6.out).mono ?_;rintro e wa ⟨va,rfl,hR,hb⟩;obtain ⟨B6,d6,rfl⟩:=Kd.R_slice hR;have HR6:=sd (Kd.R_lower hR (by have h1:=blk_lt HBXz.out;omega:w.heap.size+1≤_));(try have HR7:=sd (Kd.R_step HR7.out (fun k _ hk=>hb.block k hk)));have HBz:=sd (below_step HBz.out hb);have HBXz:=sd ((hb.block w.heap.size (blk_lt HBXz.out)).trans HBXz.out);have hz6:=blk_cell HBXz.out 6;have hz7:=blk_cell HBXz.out 7;have hf6:=blk_frozen HBXz.out 6;have hf7:=blk_frozen HBXz.out 7;clear hb hR;refine ⟨_,rfl,?_⟩) | (refine x_step_call rfl Tryz.func67 (by kernel_rfl) rfl #[.slice A7 acks.length c7] rfl (by simp [Act.eval,Act.put]) ?_;refine (slices_Clone_int_int.calls A7 c7 acks acks _ (HM7.out _ HBz.out) L7.out HC7.out).mono ?_;rintro e wa ⟨va,rfl,hR,hb⟩;obtain ⟨B7,d7,rfl⟩:=Kd.R_slice hR;have HR7:=sd (Kd.R_lower hR (by have h1:=blk_lt HBXz.out;omega:w.heap.size+1≤_));(try have HR6:=sd (Kd.R_step HR6.out (fun k _ hk=>hb.block k hk)));have HBz:=sd (below_step HBz.out hb);have HBXz:=sd ((hb.block w.heap.size (blk_lt HBXz.out)).trans HBXz.out);have hz6:=blk_cell HBXz.out 6;have hz7:=blk_cell HBXz.out 7;have hf6:=blk_frozen HBXz.out 6;have hf7:=blk_frozen HBXz.out 7;clear hb hR;refine ⟨_,rfl,?_⟩))
  all_goals
   go_wp2_with fail
   go_meet
   exact ⟨B6,d6,B7,d7,⟨blk_put (cs:=#[id,n,view,last,works,commit,.slice B6 log.length d6,.slice A7 acks.length c7,.slice A8 votes.length c8]) (blk_put (cs':=#[id,n,view,last,works,commit,.slice B6 log.length d6,.slice A7 acks.length c7,.slice A8 votes.length c8]) HBXz.out 6 _ rfl) 7 _ rfl⟩,⟨Kd.R_far (Kd.R_far (Kd.R_mono (Kd.R_bound HR6.out) (fun k hk=>hk.2.1)) (fun k hk=>by have h:w.heap.size+1≤k:=hk;show k≠w.heap.size;omega) _) (fun k hk=>by have h:w.heap.size+1≤k:=hk;show k≠w.heap.size;omega) _⟩,⟨Kd.R_far (Kd.R_far (Kd.R_mono (Kd.R_bound HR7.out) (fun k hk=>hk.2.1)) (fun k hk=>by have h:w.heap.size+1≤k:=hk;show k≠w.heap.size;omega) _) (fun k hk=>by have h:w.heap.size+1≤k:=hk;show k≠w.heap.size;omega) _⟩,⟨below_set (below_set HBz.out (Nat.le_refl _)) (Nat.le_refl _)⟩⟩
 case rest =>
  obtain ⟨B6,d6,B7,d7,HBXc,HR6c,HR7c,HBc⟩:=hcut
  have hq8:wc.cell? ⟨w.heap.size,8,none⟩=some (.slice A8 votes.length c8):=blk_cell HBXc.out 8
  have hf8:wc.frozen? ⟨w.heap.size,8,none⟩=false:=blk_frozen HBXc.out 8
  have HLT:=sd (blk_lt HBXc.out)
  go_wp2_with fail
  go_loopg [23] votes.length (fun kq v23 w'=>∃ (i:Nat) (v8:Value),v23=.int .i64 (i:Int)∧Aside0 (kq=votes.length - i∧i≤votes.length)∧Aside0 (w'.heap[w.heap.size]?=some (.cells #[id,n,view,last,works,commit,.slice B6 log.length d6,.slice B7 acks.length d7,v8] 26 (0,0)))∧Aside0 (Kd.S k63 63 w' (w.heap.size+1) (fun k=>wc.heap.size≤k) v8 (readd (votes.take i)))∧Aside0 (Kd.R Kd.string 9 w' (w.heap.size+1) (fun k=>w.heap.size+1≤k∧k < wc.heap.size) (.slice B6 log.length d6) log)∧Aside0 (Kd.R (Kd.int .i64) 3 w' (w.heap.size+1) (fun k=>w.heap.size+1≤k∧k < wc.heap.size) (.slice B7 acks.length d7) acks)∧Aside0 (Below w.heap.size w w'∧wc.heap.size≤w'.heap.size))
  case atStart =>
   exact ⟨0,.slice none 0 0,rfl,⟨by simp⟩,⟨blk_put HBXc.out 8 _ rfl⟩,⟨Kd.S_nil _ _ _ _ _⟩,⟨Kd.R_far (Kd.R_mono (Kd.R_bound HR6c.out) (fun k hk=>⟨hk.1,hk.2.2.1⟩)) (fun k hk=>by have h:w.heap.size+1≤k:=hk.1;show k≠w.heap.size;omega) _⟩,⟨Kd.R_far (Kd.R_mono (Kd.R_bound HR7c.out) (fun k hk=>⟨hk.1,hk.2.2.1⟩)) (fun k hk=>by have h:w.heap.size+1≤k:=hk.1;show k≠w.heap.size;omega) _⟩,⟨below_set HBc.out (Nat.le_refl _),by simp [World.setCell]⟩⟩
  case round =>
   clear hq8 hf8
   obtain ⟨i,v8,rfl,hi,HBX,HS,HR6,HR7,HB⟩:=hrel
   obtain ⟨A9,c9,rfl⟩:=Kd.S_slice HS.out
   by_cases hlt:i < votes.length
   ·have hb1:decide ((i:Int) < (votes.length:Int))=true:=decide_eq_true (by omega)
    have p1:(0:Int)≤(i:Int):=by omega
    have q1:(i:Int) < (votes.length:Int):=by omega
    obtain ⟨ad,A3,c3,rfl,hy0,hy1,hy2,hy3,hly,hiy⟩:=at_T63 (HM8.out _ HB.out.1) (i:Int) p1 q1
    simp only [Int.toNat_natCast] at hy0 hy1 hy2 hy3
    have hrd:rd_T63 votes (i:Int)=votes[i]:=by simp [rd_T63,List.getD_eq_getElem?_getD,List.getElem?_eq_getElem hlt]
    have HT1:=sd (show votes.take (i+1)=votes.take i++[rd_T63 votes (i:Int)] by rw [List.take_succ_eq_append_getElem hlt,hrd])
    have HVM:=sd (show (rd_T63 votes (i:Int)).f3.length≤1000 by rw [hrd];exact HVT.out _ (List.getElem_mem hlt))
    clear hrd
    replace p1:=eq_true p1
    replace q1:=eq_true q1
    generalize rd_T63 votes (i:Int)=v at *
    have HIY:=sd hiy
    have HLY:=sd hly
    have hlen:=readd_length (votes.take i)
    have hlen2:(votes.take i).length≤900:=by have:=HVS.out;simp;omega
    have HADD:=sd (add_of (readd (votes.take i)) v (by omega) HVM.out (fun u hu=>HVT.out u (List.mem_of_mem_take (readd_mem _ u hu))))
    rw [← readd_append,← HT1.out] at HADD
    clear hiy hly hlen hlen2
    have HRD:=sd (Kd.S_reads' HS.out)
    have hn8:∀ o,(wr.alloc o).cell? ⟨w.heap.size,8,none⟩=some (.slice A9 (readd (votes.take i)).length c9):=fun o=>blk_cell (blk_alloc HBX.out o) 8
    go_wp2_with ((go_at_call 53;refine (quorum_Add.calls ((readd (votes.take i)).length+1) A9 c9 (readd (votes.take i)) v.f0 v.f1 v.f2 A3 c3 v.f3 _ _ (Kd.C_alloc HRD.out.2.2 _) HRD.out.2.1 (Kd.C_alloc HIY.out _) HLY.out HADD.out).mono ?_;rintro e w9 ⟨v9,rfl,hS9,hb9⟩;obtain ⟨A10,c10,rfl⟩:=Kd.S_slice hS9;have HS9:=sd hS9;have HB9:=sd hb9;have HBX9:=sd ((hb9.block w.heap.size (by have:=blk_lt HBX.out;simp;omega)).trans (blk_alloc HBX.out (.cells #[v.f0,v.f1,v.f2,.slice A3 v.f3.length c3] 63)));have hm8:w9.cell? ⟨w.heap.size,8,none⟩=some (.slice A9 (readd (votes.take i)).length c9):=blk_cell HBX9.out 8;have hf9:w9.frozen? ⟨w.heap.size,8,none⟩=false:=blk_frozen HBX9.out 8;clear hS9 hb9))
    go_roundg (votes.length - (i+1))
    case measure=>have:=hi.out.1;omega
    case rel =>
     have hw:wrap64 ((i:Int)+1)=((i+1:Nat):Int):=by have:=HVS.out;unfold wrap64;omega
     have hsz:wc.heap.size≤w9.heap.size:=by have h1:=HB9.out.size;have h2:=HB.out.2;simp at h1;omega
     have hst:∀ k,k < wr.heap.size→w9.heap[k]?=wr.heap[k]?:=fun k hk=>(HB9.out.block k (by simp;omega)).trans (Below.heap_alloc wr _ k hk)
     have hwc:=HLT.out
     refine ⟨i+1,_,by rw [hw],⟨by have:=hi.out;omega,by omega⟩,⟨blk_put HBX9.out 8 _ rfl⟩,⟨Kd.S_far (Kd.S_mono (Kd.S_lower (Kd.S_bound HS9.out) (by have:=HB.out.2;simp;omega:w.heap.size+1≤_)) (fun k hk=>?_)) (fun k hk=>?_) _⟩,⟨Kd.R_far (Kd.R_step HR6.out (fun k hk hl=>hst k hl)) (fun k hk=>by have h:w.heap.size+1≤k:=hk.1;show k≠w.heap.size;omega) _⟩,⟨Kd.R_far (Kd.R_step HR7.out (fun k hk hl=>hst k hl)) (fun k hk=>by have h:w.heap.size+1≤k:=hk.1;show k≠w.heap.size;omega) _⟩,⟨below_set (below_step (below_alloc HB.out.1 _) HB9.out) (Nat.le_refl _),by simpa [World.setCell] using hsz⟩⟩
     ·have h1:=hk.2.1;have h2:=HB.out.2;simp at h1;omega
     ·have h1:wc.heap.size≤k:=hk;show k≠w.heap.size;omega
   ·have hb1:decide ((i:Int) < (votes.length:Int))=false:=decide_eq_false (by omega)
    have hie:i=votes.length:=by have:=hi.out;omega
    have HV8:=sd (show readd (votes.take i)=readd votes by rw [hie,List.take_length])
    clear hie
    rw [HV8.out] at HS HBX
    have hz0:wr.cell? ⟨w.heap.size,0,none⟩=some (.int .i64 id):=blk_cell HBX.out 0
    have hz1:wr.cell? ⟨w.heap.size,1,none⟩=some (.int .i64 n):=blk_cell HBX.out 1
    have hz2:wr.cell? ⟨w.heap.size,2,none⟩=some (.int .i64 view):=blk_cell HBX.out 2
    have hz3:wr.cell? ⟨w.heap.size,3,none⟩=some (.int .i64 last):=blk_cell HBX.out 3
    have hz4:wr.cell? ⟨w.heap.size,4,none⟩=some (.bool works):=blk_cell HBX.out 4
    have hz5:wr.cell? ⟨w.heap.size,5,none⟩=some (.int .i64 commit):=blk_cell HBX.out 5
    have hz6:wr.cell? ⟨w.heap.size,6,none⟩=some (.slice B6 log.length d6):=blk_cell HBX.out 6
    have hz7:wr.cell? ⟨w.heap.size,7,none⟩=some (.slice B7 acks.length d7):=blk_cell HBX.out 7
    have hz8:wr.cell? ⟨w.heap.size,8,none⟩=some (.slice A9 (readd votes).length c9):=blk_cell HBX.out 8
    go_wp2
    go_ret
    have hmk:=nd_make (x:=Nod.opened ⟨id,n,view,last,works,commit,log,acks,votes,told⟩) (base:=w.heap.size) (W:=wr) (by have:=HB.out.1.size;omega) (Kd.R_lower HR6.out (by omega)) (Kd.R_lower HR7.out (by omega)) (Kd.S_lower (Kd.S_bound HS.out) (by omega)) rfl (fun k hk=>⟨fun e=>?_,fun e=>?_⟩)
    ·exact ⟨wr.heap.size,rfl,hmk,below_alloc HB.out.1 _⟩
    ·have h1:=HR6.out.1 k e.symm
     have h2:=hk.1
     have h3:=h1.2
     omega
    ·have h1:=HR7.out.1 k e.symm
     have h2:=hk.1
     have h3:=h1.2
     omega
end Go.Proofs.YtfpfpckocemmdaaGreat.P
