/- Part 34 of the walk. -/
import Derived.Test.YtfpfpckocemmdaaGreatCDoes33
set_option linter.unusedVariables false
set_option linter.unusedSimpArgs false
set_option maxHeartbeats 8000000
set_option maxRecDepth 100000
namespace Go.Proofs.YtfpfpckocemmdaaGreat.P
open Go.RowKit Go.Proofs.YtfpfpckocemmdaaGreatW.PrintWords Go.Proofs.YtfpfpckocemmdaaGreatW.PrintLast Go.Proofs.YtfpfpckocemmdaaGreatW.PrintMore
set_option maxRecDepth 100000
def Stays (W:World) (F:World→Prop):Prop:=∀ W':World,(∀ k,k < W.heap.size→W'.heap[k]?=W.heap[k]?)→F W'
def StaysBut (W:World) (g:Nat) (F:World→Prop):Prop:=∀ W':World,(∀ k,k≠g→k < W.heap.size→W'.heap[k]?=W.heap[k]?)→F W'
theorem Stays.here {W:World} {F:World→Prop} (h:Stays W F):F W:=h W (fun _ _=>rfl)
theorem StaysBut.here {W:World} {g:Nat} {F:World→Prop} (h:StaysBut W g F):F W:=h W (fun _ _ _=>rfl)
theorem Stays.below {W W1:World} {F:World→Prop} (h:Stays W F) (hb:Below W.heap.size W W1):Stays W1 F:=fun W' hm=>h W' (fun k hk=>(hm k (Nat.lt_of_lt_of_le hk hb.size)).trans (hb.block k hk))
theorem Stays.alloc {W:World} {F:World→Prop} (h:Stays W F) (o:Obj):Stays (W.alloc o) F:=h.below (below_alloc (Below.refl _ _) o)
theorem Stays.of {W:World} {F:World→Prop} {n:Nat} (h:∀ W2:World,(∀ k,n≤k→k < W.heap.size→W2.heap[k]?=W.heap[k]?)→F W2):Stays W F:=fun W' hm=>h W' (fun k _ hk=>hm k hk)
theorem Stays.and {W:World} {F G:World→Prop} (h:Stays W F) (k:Stays W G):Stays W (fun W'=>F W'∧G W'):=fun W' hm=>⟨h W' hm,k W' hm⟩
theorem Stays.mono {W:World} {F G:World→Prop} (h:Stays W F) (k:∀ W',F W'→G W'):Stays W G:=fun W' hm=>k W' (h W' hm)
theorem StaysBut.mono {W:World} {g:Nat} {F G:World→Prop} (h:StaysBut W g F) (k:∀ W',F W'→G W'):StaysBut W g G:=fun W' hm=>k W' (h W' hm)
theorem Stays.new (W:World) (o:Obj):Stays (W.alloc o) (fun W'=>W'.heap[W.heap.size]?=some o):=fun W' hm=>(hm _ (blk_lt (x_alloc_new W o))).trans (x_alloc_new W o)
theorem Stays.but_new {W W1:World} {F:World→Prop} {g:Nat} (h:Stays W F) (hg:g=W.heap.size) (hb:Below W.heap.size W W1):StaysBut W1 g F:=fun W' hm=>h W' (fun k hk=>(hm k (by omega) (Nat.lt_of_lt_of_le hk hb.size)).trans (hb.block k hk))
theorem StaysBut.below {W W1:World} {F:World→Prop} {g:Nat} (h:StaysBut W g F) (hb:Below W.heap.size W W1):StaysBut W1 g F:=fun W' hm=>h W' (fun k hk hl=>(hm k hk (Nat.lt_of_lt_of_le hl hb.size)).trans (hb.block k hl))
theorem StaysBut.of {W:World} {F:World→Prop} {n g:Nat} (h:∀ W2:World,(∀ k,n≤k→k < W.heap.size→W2.heap[k]?=W.heap[k]?)→F W2) (hg:g < n):StaysBut W g F:=fun W' hm=>h W' (fun k hk hl=>hm k (by omega) hl)
theorem StaysBut.and {W:World} {g:Nat} {F G:World→Prop} (h:StaysBut W g F) (k:StaysBut W g G):StaysBut W g (fun W'=>F W'∧G W'):=fun W' hm=>⟨h W' hm,k W' hm⟩
theorem StaysBut.put {W W1:World} {F:World→Prop} {g:Nat} {o:Obj} (h:StaysBut W g F) (hs:W.heap.size≤W1.heap.size) (hg:W1.heap[g]?=some o) (hm:∀ k,k≠g→W1.heap[k]?=W.heap[k]?):Stays W1 (fun W'=>W'.heap[g]?=some o∧F W'):=fun W' h1=>⟨(h1 g (blk_lt hg)).trans hg,h W' (fun k hk hl=>(h1 k (Nat.lt_of_lt_of_le hl hs)).trans (hm k hk))⟩
theorem w_ask1 (A6 A7 A8:Option Addr) (c6 c7 c8:Nat) (w:World) (h:Arg w (⟨0,3,0,0,true,0,[],[0,0,0],[],[]⟩:Nod) A6 A7 A8 c6 c7 c8) :
  Calls Tryz.prog 6 #[.agg #[.int .i64 0,.int .i64 3,.int .i64 0,.int .i64 0,.bool true,.int .i64 0,.slice A6 0 c6,.slice A7 3 c7,.slice A8 0 c8],.string ⟨#[97]⟩] w fun e w'=>∃ D6 d6 D7 d7 D8 d8 D9 d9,e=.returned (.tuple #[.agg #[.int .i64 0,.int .i64 3,.int .i64 0,.int .i64 0,.bool true,.int .i64 0,.slice D6 1 d6,.slice D7 3 d7,.slice D8 0 d8],.slice D9 2 d9,.int .i64 0])∧Arg w' (⟨0,3,0,0,true,0,[⟨#[97]⟩],[1,0,0],[],[⟨1,0,1,0,0,0,0,[⟨#[97]⟩]⟩,⟨1,0,2,0,0,0,0,[⟨#[97]⟩]⟩]⟩:Nod) D6 D7 D8 d6 d7 d8∧2≤d9∧Kd.C k28 w' D9 2 [(⟨1,0,1,0,0,0,0,[⟨#[97]⟩]⟩:S28),(⟨1,0,2,0,0,0,0,[⟨#[97]⟩]⟩:S28)]∧Below w.heap.size w w'∧(∀ W2:World,(∀ k,w.heap.size≤k→k < w'.heap.size→W2.heap[k]?=w'.heap[k]?)→Arg W2 (⟨0,3,0,0,true,0,[⟨#[97]⟩],[1,0,0],[],[⟨1,0,1,0,0,0,0,[⟨#[97]⟩]⟩,⟨1,0,2,0,0,0,0,[⟨#[97]⟩]⟩]⟩:Nod) D6 D7 D8 d6 d7 d8∧Kd.C k28 W2 D9 2 [(⟨1,0,1,0,0,0,0,[⟨#[97]⟩]⟩:S28),(⟨1,0,2,0,0,0,0,[⟨#[97]⟩]⟩:S28)]):=by
 refine (ask_calls (⟨0,3,0,0,true,0,[],[0,0,0],[],[]⟩:Nod) ⟨#[97]⟩ A6 A7 A8 c6 c7 c8 w h).mono ?_
 rintro e w' ⟨v6,v7,v8,v9,rfl,hres,hb⟩
 rw [show askOf (⟨0,3,0,0,true,0,[],[0,0,0],[],[]⟩:Nod) ⟨#[97]⟩=((⟨0,3,0,0,true,0,[⟨#[97]⟩],[1,0,0],[],[⟨1,0,1,0,0,0,0,[⟨#[97]⟩]⟩,⟨1,0,2,0,0,0,0,[⟨#[97]⟩]⟩]⟩:Nod),0) from by kernel_rfl] at hres ⊢
 obtain ⟨D6,d6,D7,d7,D8,d8,D9,d9,rfl,rfl,rfl,rfl,h9,hK⟩:=hres.arg2 (by decide) (by decide) (by decide) (by intro v hv;simp at hv<;>(subst hv;decide))
 exact ⟨D6,d6,D7,d7,D8,d8,D9,d9,rfl,(hK w' (fun _ _ _=>rfl)).1,h9,(hK w' (fun _ _ _=>rfl)).2,hb,hK⟩
theorem w_handle1 (A6 A7 A8:Option Addr) (c6 c7 c8:Nat) (w:World) (A:Option Addr) (c:Nat) (h:Arg w (⟨1,3,0,0,true,0,[],[0,0,0],[],[]⟩:Nod) A6 A7 A8 c6 c7 c8) (hm:Kd.C Kd.string w A 1 [⟨#[97]⟩]) (lm:1≤c) :
  Calls Tryz.prog 10 #[.agg #[.int .i64 1,.int .i64 3,.int .i64 0,.int .i64 0,.bool true,.int .i64 0,.slice A6 0 c6,.slice A7 3 c7,.slice A8 0 c8],.agg #[.int .i64 1,.int .i64 0,.int .i64 1,.int .i64 0,.int .i64 0,.int .i64 0,.int .i64 0,.slice A 1 c]] w fun e w'=>∃ D6 d6 D7 d7 D8 d8 D9 d9,e=.returned (.tuple #[.agg #[.int .i64 1,.int .i64 3,.int .i64 0,.int .i64 0,.bool true,.int .i64 0,.slice D6 1 d6,.slice D7 3 d7,.slice D8 0 d8],.slice D9 1 d9,.int .i64 0])∧Arg w' (⟨1,3,0,0,true,0,[⟨#[97]⟩],[0,0,0],[],[⟨2,1,0,0,0,0,1,[]⟩]⟩:Nod) D6 D7 D8 d6 d7 d8∧1≤d9∧Kd.C k28 w' D9 1 [(⟨2,1,0,0,0,0,1,[]⟩:S28)]∧Below w.heap.size w w'∧(∀ W2:World,(∀ k,w.heap.size≤k→k < w'.heap.size→W2.heap[k]?=w'.heap[k]?)→Arg W2 (⟨1,3,0,0,true,0,[⟨#[97]⟩],[0,0,0],[],[⟨2,1,0,0,0,0,1,[]⟩]⟩:Nod) D6 D7 D8 d6 d7 d8∧Kd.C k28 W2 D9 1 [(⟨2,1,0,0,0,0,1,[]⟩:S28)]):=by
 refine (handle_calls (⟨1,3,0,0,true,0,[],[0,0,0],[],[]⟩:Nod) (⟨1,0,1,0,0,0,0,[⟨#[97]⟩]⟩:S28) A6 A7 A8 A c6 c7 c8 c w h hm lm).mono ?_
 rintro e w' ⟨v6,v7,v8,v9,rfl,hres,hb⟩
 rw [show handleOf (⟨1,3,0,0,true,0,[],[0,0,0],[],[]⟩:Nod) (⟨1,0,1,0,0,0,0,[⟨#[97]⟩]⟩:S28)=((⟨1,3,0,0,true,0,[⟨#[97]⟩],[0,0,0],[],[⟨2,1,0,0,0,0,1,[]⟩]⟩:Nod),0) from by kernel_rfl] at hres ⊢
 obtain ⟨D6,d6,D7,d7,D8,d8,D9,d9,rfl,rfl,rfl,rfl,h9,hK⟩:=hres.arg2 (by decide) (by decide) (by decide) (by intro v hv;simp at hv<;>(subst hv;decide))
 exact ⟨D6,d6,D7,d7,D8,d8,D9,d9,rfl,(hK w' (fun _ _ _=>rfl)).1,h9,(hK w' (fun _ _ _=>rfl)).2,hb,hK⟩
theorem w_handle2 (A6 A7 A8:Option Addr) (c6 c7 c8:Nat) (w:World) (A:Option Addr) (c:Nat) (h:Arg w (⟨0,3,0,0,true,0,[⟨#[97]⟩],[1,0,0],[],[⟨1,0,1,0,0,0,0,[⟨#[97]⟩]⟩,⟨1,0,2,0,0,0,0,[⟨#[97]⟩]⟩]⟩:Nod) A6 A7 A8 c6 c7 c8) (hm:Kd.C Kd.string w A 0 []) (lm:0≤c) :
  Calls Tryz.prog 10 #[.agg #[.int .i64 0,.int .i64 3,.int .i64 0,.int .i64 0,.bool true,.int .i64 0,.slice A6 1 c6,.slice A7 3 c7,.slice A8 0 c8],.agg #[.int .i64 2,.int .i64 1,.int .i64 0,.int .i64 0,.int .i64 0,.int .i64 0,.int .i64 1,.slice A 0 c]] w fun e w'=>∃ D6 d6 D7 d7 D8 d8 D9 d9,e=.returned (.tuple #[.agg #[.int .i64 0,.int .i64 3,.int .i64 0,.int .i64 0,.bool true,.int .i64 1,.slice D6 1 d6,.slice D7 3 d7,.slice D8 0 d8],.slice D9 2 d9,.int .i64 0])∧Arg w' (⟨0,3,0,0,true,1,[⟨#[97]⟩],[1,1,0],[],[⟨1,0,1,0,0,1,0,[⟨#[97]⟩]⟩,⟨1,0,2,0,0,1,0,[⟨#[97]⟩]⟩]⟩:Nod) D6 D7 D8 d6 d7 d8∧2≤d9∧Kd.C k28 w' D9 2 [(⟨1,0,1,0,0,1,0,[⟨#[97]⟩]⟩:S28),⟨1,0,2,0,0,1,0,[⟨#[97]⟩]⟩]∧Below w.heap.size w w'∧(∀ W2:World,(∀ k,w.heap.size≤k→k < w'.heap.size→W2.heap[k]?=w'.heap[k]?)→Arg W2 (⟨0,3,0,0,true,1,[⟨#[97]⟩],[1,1,0],[],[⟨1,0,1,0,0,1,0,[⟨#[97]⟩]⟩,⟨1,0,2,0,0,1,0,[⟨#[97]⟩]⟩]⟩:Nod) D6 D7 D8 d6 d7 d8∧Kd.C k28 W2 D9 2 [(⟨1,0,1,0,0,1,0,[⟨#[97]⟩]⟩:S28),⟨1,0,2,0,0,1,0,[⟨#[97]⟩]⟩]):=by
 refine (handle_calls (⟨0,3,0,0,true,0,[⟨#[97]⟩],[1,0,0],[],[⟨1,0,1,0,0,0,0,[⟨#[97]⟩]⟩,⟨1,0,2,0,0,0,0,[⟨#[97]⟩]⟩]⟩:Nod) (⟨2,1,0,0,0,0,1,[]⟩:S28) A6 A7 A8 A c6 c7 c8 c w h hm lm).mono ?_
 rintro e w' ⟨v6,v7,v8,v9,rfl,hres,hb⟩
 rw [show handleOf (⟨0,3,0,0,true,0,[⟨#[97]⟩],[1,0,0],[],[⟨1,0,1,0,0,0,0,[⟨#[97]⟩]⟩,⟨1,0,2,0,0,0,0,[⟨#[97]⟩]⟩]⟩:Nod) (⟨2,1,0,0,0,0,1,[]⟩:S28)=((⟨0,3,0,0,true,1,[⟨#[97]⟩],[1,1,0],[],[⟨1,0,1,0,0,1,0,[⟨#[97]⟩]⟩,⟨1,0,2,0,0,1,0,[⟨#[97]⟩]⟩]⟩:Nod),0) from by kernel_rfl] at hres ⊢
 obtain ⟨D6,d6,D7,d7,D8,d8,D9,d9,rfl,rfl,rfl,rfl,h9,hK⟩:=hres.arg2 (by decide) (by decide) (by decide) (by intro v hv;simp at hv<;>(subst hv;decide))
 exact ⟨D6,d6,D7,d7,D8,d8,D9,d9,rfl,(hK w' (fun _ _ _=>rfl)).1,h9,(hK w' (fun _ _ _=>rfl)).2,hb,hK⟩
theorem w_timeout (A6 A7 A8:Option Addr) (c6 c7 c8:Nat) (w:World) (h:Arg w (⟨1,3,0,0,true,0,[⟨#[97]⟩],[0,0,0],[],[⟨2,1,0,0,0,0,1,[]⟩]⟩:Nod) A6 A7 A8 c6 c7 c8) :
  Calls Tryz.prog 8 #[.agg #[.int .i64 1,.int .i64 3,.int .i64 0,.int .i64 0,.bool true,.int .i64 0,.slice A6 1 c6,.slice A7 3 c7,.slice A8 0 c8]] w fun e w'=>∃ D6 d6 D7 d7 D8 d8 D9 d9,e=.returned (.tuple #[.agg #[.int .i64 1,.int .i64 3,.int .i64 1,.int .i64 0,.bool false,.int .i64 0,.slice D6 1 d6,.slice D7 3 d7,.slice D8 1 d8],.slice D9 0 d9,.int .i64 0])∧Arg w' (⟨1,3,1,0,false,0,[⟨#[97]⟩],[0,0,0],[⟨1,0,0,[⟨#[97]⟩]⟩],[]⟩:Nod) D6 D7 D8 d6 d7 d8∧0≤d9∧Kd.C k28 w' D9 0 ([]:List S28)∧Below w.heap.size w w'∧(∀ W2:World,(∀ k,w.heap.size≤k→k < w'.heap.size→W2.heap[k]?=w'.heap[k]?)→Arg W2 (⟨1,3,1,0,false,0,[⟨#[97]⟩],[0,0,0],[⟨1,0,0,[⟨#[97]⟩]⟩],[]⟩:Nod) D6 D7 D8 d6 d7 d8∧Kd.C k28 W2 D9 0 ([]:List S28)):=by
 refine (timeout_calls (⟨1,3,0,0,true,0,[⟨#[97]⟩],[0,0,0],[],[⟨2,1,0,0,0,0,1,[]⟩]⟩:Nod) A6 A7 A8 c6 c7 c8 w h).mono ?_
 rintro e w' ⟨v6,v7,v8,v9,rfl,hres,hb⟩
 rw [show timeoutOf (⟨1,3,0,0,true,0,[⟨#[97]⟩],[0,0,0],[],[⟨2,1,0,0,0,0,1,[]⟩]⟩:Nod)=((⟨1,3,1,0,false,0,[⟨#[97]⟩],[0,0,0],[⟨1,0,0,[⟨#[97]⟩]⟩],[]⟩:Nod),0) from by kernel_rfl] at hres ⊢
 obtain ⟨D6,d6,D7,d7,D8,d8,D9,d9,rfl,rfl,rfl,rfl,h9,hK⟩:=hres.arg2 (by decide) (by decide) (by decide) (by intro v hv;simp at hv<;>(subst hv;decide))
 exact ⟨D6,d6,D7,d7,D8,d8,D9,d9,rfl,(hK w' (fun _ _ _=>rfl)).1,h9,(hK w' (fun _ _ _=>rfl)).2,hb,hK⟩
theorem w_ask2 (A6 A7 A8:Option Addr) (c6 c7 c8:Nat) (w:World) (h:Arg w (⟨1,3,0,0,true,0,[],[0,0,0],[],[]⟩:Nod) A6 A7 A8 c6 c7 c8) :
  Calls Tryz.prog 6 #[.agg #[.int .i64 1,.int .i64 3,.int .i64 0,.int .i64 0,.bool true,.int .i64 0,.slice A6 0 c6,.slice A7 3 c7,.slice A8 0 c8],.string ⟨#[98]⟩] w fun e w'=>∃ D6 d6 D7 d7 D8 d8 D9 d9,e=.returned (.tuple #[.agg #[.int .i64 0,.int .i64 0,.int .i64 0,.int .i64 0,.bool false,.int .i64 0,.slice D6 0 d6,.slice D7 0 d7,.slice D8 0 d8],.slice D9 0 d9,.int .i64 220])∧Below w.heap.size w w':=by
 refine (ask_calls (⟨1,3,0,0,true,0,[],[0,0,0],[],[]⟩:Nod) ⟨#[98]⟩ A6 A7 A8 c6 c7 c8 w h).mono ?_
 rintro e w' ⟨v6,v7,v8,v9,rfl,hres,hb⟩
 rw [show askOf (⟨1,3,0,0,true,0,[],[0,0,0],[],[]⟩:Nod) ⟨#[98]⟩=(zeroNod,220) from by kernel_rfl] at hres ⊢
 obtain ⟨D6,d6,D7,d7,D8,d8,D9,d9,rfl,rfl,rfl,rfl,harg,h9,hC⟩:=hres.arg (by decide) (by decide) (by decide) (by intro v hv;cases hv)
 exact ⟨D6,d6,D7,d7,D8,d8,D9,d9,rfl,hb⟩
theorem w_is (A6 A7 A8:Option Addr) (c6 c7 c8:Nat) (w:World) (h:Arg w (⟨0,3,0,0,true,1,[⟨#[97]⟩],[1,1,0],[],[⟨1,0,1,0,0,1,0,[⟨#[97]⟩]⟩,⟨1,0,2,0,0,1,0,[⟨#[97]⟩]⟩]⟩:Nod) A6 A7 A8 c6 c7 c8) :
  Calls Tryz.prog 20 #[.agg #[.int .i64 0,.int .i64 3,.int .i64 0,.int .i64 0,.bool true,.int .i64 1,.slice A6 1 c6,.slice A7 3 c7,.slice A8 0 c8]] w fun e w'=>e=.returned (.bool true)∧Below w.heap.size w w':=by
 have hh:=is_calls 0 3 0 0 true 1 [⟨#[97]⟩] [1,1,0] [] [⟨1,0,1,0,0,1,0,[⟨#[97]⟩]⟩,⟨1,0,2,0,0,1,0,[⟨#[97]⟩]⟩] A6 A7 A8 c6 c7 c8 w h.h6 h.l6 h.h7 h.l7 h.h8 h.l8 h.hl h.ha h.hvl h.hv
 have e:isB (⟨0,3,0,0,true,1,[⟨#[97]⟩],[1,1,0],[],[⟨1,0,1,0,0,1,0,[⟨#[97]⟩]⟩,⟨1,0,2,0,0,1,0,[⟨#[97]⟩]⟩]⟩:Nod)=true:=by kernel_rfl
 rw [e] at hh
 exact hh
theorem w_new0 (w:World) :
  Calls Tryz.prog 17 #[.int .i64 0,.int .i64 3] w fun e w'=>∃ D6 d6 D7 d7 D8 d8,e=.returned (.tuple #[.agg #[.int .i64 0,.int .i64 3,.int .i64 0,.int .i64 0,.bool true,.int .i64 0,.slice D6 0 d6,.slice D7 3 d7,.slice D8 0 d8],.int .i64 0])∧Arg w' (⟨0,3,0,0,true,0,[],[0,0,0],[],[]⟩:Nod) D6 D7 D8 d6 d7 d8∧Below w.heap.size w w'∧(∀ W2:World,(∀ k,w.heap.size≤k→k < w'.heap.size→W2.heap[k]?=w'.heap[k]?)→Arg W2 (⟨0,3,0,0,true,0,[],[0,0,0],[],[]⟩:Nod) D6 D7 D8 d6 d7 d8):=by
 refine (replica_New.calls 0 3 0 3 0 0 true 0 [] [0,0,0] [] 0 w (by kernel_rfl)).mono ?_
 rintro e w' ⟨v6,v7,v8,rfl,h6,h7,h8,hb⟩
 obtain ⟨A6,c6,rfl,e6,k6⟩:=Kd.R_reads h6
 obtain ⟨A7,c7,rfl,e7,k7⟩:=Kd.R_reads h7
 obtain ⟨A8,c8,rfl,e8,k8⟩:=Kd.S_reads h8
 have hK:∀ W2:World,(∀ k,w.heap.size≤k→k < w'.heap.size→W2.heap[k]?=w'.heap[k]?)→Arg W2 (⟨0,3,0,0,true,0,[],[0,0,0],[],[]⟩:Nod) A6 A7 A8 c6 c7 c8:=fun W2 hm=>⟨(Kd.R_reads' (Kd.R_step (Kd.R_bound h6) (fun k hk hl=>hm k hk.2.1 hl))).2.2,e6,(Kd.R_reads' (Kd.R_step (Kd.R_bound h7) (fun k hk hl=>hm k hk.2.1 hl))).2.2,e7,(Kd.S_reads' (Kd.S_step (Kd.S_bound h8) (fun k hk hl=>hm k hk.2.1 hl))).2.2,e8,by decide,by decide,by decide,by intro v hv;cases hv⟩
 exact ⟨A6,c6,A7,c7,A8,c8,rfl,hK w' (fun _ _ _=>rfl),hb,hK⟩
theorem w_new1 (w:World) :
  Calls Tryz.prog 17 #[.int .i64 1,.int .i64 3] w fun e w'=>∃ D6 d6 D7 d7 D8 d8,e=.returned (.tuple #[.agg #[.int .i64 1,.int .i64 3,.int .i64 0,.int .i64 0,.bool true,.int .i64 0,.slice D6 0 d6,.slice D7 3 d7,.slice D8 0 d8],.int .i64 0])∧Arg w' (⟨1,3,0,0,true,0,[],[0,0,0],[],[]⟩:Nod) D6 D7 D8 d6 d7 d8∧Below w.heap.size w w'∧(∀ W2:World,(∀ k,w.heap.size≤k→k < w'.heap.size→W2.heap[k]?=w'.heap[k]?)→Arg W2 (⟨1,3,0,0,true,0,[],[0,0,0],[],[]⟩:Nod) D6 D7 D8 d6 d7 d8):=by
 refine (replica_New.calls 1 3 1 3 0 0 true 0 [] [0,0,0] [] 0 w (by kernel_rfl)).mono ?_
 rintro e w' ⟨v6,v7,v8,rfl,h6,h7,h8,hb⟩
 obtain ⟨A6,c6,rfl,e6,k6⟩:=Kd.R_reads h6
 obtain ⟨A7,c7,rfl,e7,k7⟩:=Kd.R_reads h7
 obtain ⟨A8,c8,rfl,e8,k8⟩:=Kd.S_reads h8
 have hK:∀ W2:World,(∀ k,w.heap.size≤k→k < w'.heap.size→W2.heap[k]?=w'.heap[k]?)→Arg W2 (⟨1,3,0,0,true,0,[],[0,0,0],[],[]⟩:Nod) A6 A7 A8 c6 c7 c8:=fun W2 hm=>⟨(Kd.R_reads' (Kd.R_step (Kd.R_bound h6) (fun k hk hl=>hm k hk.2.1 hl))).2.2,e6,(Kd.R_reads' (Kd.R_step (Kd.R_bound h7) (fun k hk hl=>hm k hk.2.1 hl))).2.2,e7,(Kd.S_reads' (Kd.S_step (Kd.S_bound h8) (fun k hk hl=>hm k hk.2.1 hl))).2.2,e8,by decide,by decide,by decide,by intro v hv;cases hv⟩
 exact ⟨A6,c6,A7,c7,A8,c8,rfl,hK w' (fun _ _ _=>rfl),hb,hK⟩
def fitB (l:List ByteArray) (a:List Int) (v:List S63):Bool:=decide (l.length < 4398046511104) && decide (a.length < 4398046511104) && decide (v.length < 4398046511104) && v.all (fun u=>decide (u.f3.length < 4398046511104) && (Lit.int .i64 u.f0).wf)
theorem arg_of {w:World} {x:Nod} {A6 A7 A8:Option Addr} {c6 c7 c8:Nat} (h6:Kd.C Kd.string w A6 x.log.length x.log) (l6:x.log.length≤c6) (h7:Kd.C (Kd.int .i64) w A7 x.acks.length x.acks) (l7:x.acks.length≤c7) (h8:Kd.C k63 w A8 x.votes.length x.votes) (l8:x.votes.length≤c8) (hf:fitB x.log x.acks x.votes=true):Arg w x A6 A7 A8 c6 c7 c8:=by
 unfold fitB at hf
 simp only [Bool.and_eq_true,decide_eq_true_eq,List.all_eq_true] at hf
 exact ⟨h6,l6,h7,l7,h8,l8,hf.1.1.1,hf.1.1.2,hf.1.2,hf.2⟩
section
attribute [local go_sem] max2_int min2_int max_two min_two max_three min_three max_four min_four   -- for this text's walks alone
def sextonref22_SameVote.f (k:Nat) (a0_0:Int) (a0_1:Int) (a0_2:Int) (l0_3:List ByteArray) (a1_0:Int) (a1_1:Int) (a1_2:Int) (l1_3:List ByteArray):Option (Bool):=if a0_0=a1_0 then (if a0_1=a1_1 then (if a0_2=a1_2 then ((sextonref01_Texts.f k l0_3 l1_3).bind fun t628=>(some t628)) else (some false)) else (some false)) else (some false)
def sextonref22_Same.l0:Nat→List (S63)→List (S63)→Int→Option (Bool)
 | 0,_,_,_=>none
 | k+1,x0,x1,x5=>if x5 < (x0.length:Int) then (if 0≤x5 then (if x5 < (x1.length:Int) then ((sextonref22_SameVote.f k ((rd_T63 x0 x5).f0) ((rd_T63 x0 x5).f1) ((rd_T63 x0 x5).f2) ((rd_T63 x0 x5).f3) ((rd_T63 x1 x5).f0) ((rd_T63 x1 x5).f1) ((rd_T63 x1 x5).f2) ((rd_T63 x1 x5).f3)).bind fun t631=>(if t631=true then (sextonref22_Same.l0 k x0 x1 (wrap64 (x5+1))) else (some false))) else (none)) else (none)) else (some true)
def sextonref22_Same.f (k:Nat) (l0:List (S63)) (l1:List (S63)):Option (Bool):=if (l0.length:Int)=(l1.length:Int) then (sextonref22_Same.l0 k l0 l1 0) else (some false)
end
structure Fits (x:Nod):Prop where
 log:x.log.length < 4398046511104
 acks:x.acks.length < 4398046511104
 votes:x.votes.length < 4398046511104
 each:∀ v,v∈x.votes→v.f3.length < 4398046511104∧(Lit.int .i64 v.f0).wf=true
theorem fits_zero:Fits zeroNod:=⟨by decide,by decide,by decide,fun v hv=>by cases hv⟩
theorem Stays.blk {W:World} {g:Nat} {o:Obj} (h:W.heap[g]?=some o):Stays W (fun W'=>W'.heap[g]?=some o):=fun W' hm=>(hm g (blk_lt h)).trans h
theorem Back.stays {w w':World} {r:Nod×Int} {e:Ending} (h:Back w r e w') (hf:Fits r.1):∃ D6 d6 D7 d7 D8 d8 D9 d9,e=.returned (.tuple #[.agg #[.int .i64 r.1.id,.int .i64 r.1.n,.int .i64 r.1.view,.int .i64 r.1.last,.bool r.1.works,.int .i64 r.1.commit,.slice D6 r.1.log.length d6,.slice D7 r.1.acks.length d7,.slice D8 r.1.votes.length d8],.slice D9 r.1.told.length d9,.int .i64 r.2])∧r.1.told.length≤d9∧Stays w' (fun W=>Arg W r.1 D6 D7 D8 d6 d7 d8∧Kd.C k28 W D9 r.1.told.length r.1.told)∧Below w.heap.size w w':=by
 obtain ⟨v6,v7,v8,v9,rfl,hres,hb⟩:=h
 obtain ⟨D6,d6,D7,d7,D8,d8,D9,d9,rfl,rfl,rfl,rfl,h9,hK⟩:=hres.arg2 hf.log hf.acks hf.votes hf.each
 exact ⟨D6,d6,D7,d7,D8,d8,D9,d9,rfl,h9,Stays.of hK,hb⟩
theorem Back2.stays {w w':World} {r:Nod×Int} {e:Ending} (h:Back2 w r e w') (hf:Fits r.1):∃ D6 d6 D7 d7 D8 d8,e=.returned (.tuple #[.agg #[.int .i64 r.1.id,.int .i64 r.1.n,.int .i64 r.1.view,.int .i64 r.1.last,.bool r.1.works,.int .i64 r.1.commit,.slice D6 r.1.log.length d6,.slice D7 r.1.acks.length d7,.slice D8 r.1.votes.length d8],.int .i64 r.2])∧Stays w' (fun W=>Arg W r.1 D6 D7 D8 d6 d7 d8)∧Below w.heap.size w w':=by
 obtain ⟨v6,v7,v8,v9,rfl,hres,hb⟩:=h
 obtain ⟨D6,d6,D7,d7,D8,d8,D9,d9,rfl,rfl,rfl,rfl,h9,hK⟩:=hres.arg2 hf.log hf.acks hf.votes hf.each
 exact ⟨D6,d6,D7,d7,D8,d8,rfl,(Stays.of hK).mono (fun W h=>h.1),hb⟩
theorem restart_stays {x y:Nod} {e:Int} (h:restartOf x=(y,e)) (hf:Fits y) {A6 A7 A8:Option Addr} {c6 c7 c8:Nat} {w:World} (ha:Arg w x A6 A7 A8 c6 c7 c8) :
  Calls Tryz.prog 12 #[.agg #[.int .i64 x.id,.int .i64 x.n,.int .i64 x.view,.int .i64 x.last,.bool x.works,.int .i64 x.commit,.slice A6 x.log.length c6,.slice A7 x.acks.length c7,.slice A8 x.votes.length c8]] w fun e' w'=>∃ D6 d6 D7 d7 D8 d8,e'=.returned (.tuple #[.agg #[.int .i64 y.id,.int .i64 y.n,.int .i64 y.view,.int .i64 y.last,.bool y.works,.int .i64 y.commit,.slice D6 y.log.length d6,.slice D7 y.acks.length d7,.slice D8 y.votes.length d8],.int .i64 e])∧Stays w' (fun W=>Arg W y D6 D7 D8 d6 d7 d8)∧Below w.heap.size w w':=by
 refine (restart_calls x A6 A7 A8 c6 c7 c8 w ha).mono fun e' w' hb=>?_
 rw [h] at hb
 exact hb.stays hf
theorem timeout_stays {x y:Nod} {e:Int} (h:timeoutOf x=(y,e)) (hf:Fits y) {A6 A7 A8:Option Addr} {c6 c7 c8:Nat} {w:World} (ha:Arg w x A6 A7 A8 c6 c7 c8) :
  Calls Tryz.prog 8 #[.agg #[.int .i64 x.id,.int .i64 x.n,.int .i64 x.view,.int .i64 x.last,.bool x.works,.int .i64 x.commit,.slice A6 x.log.length c6,.slice A7 x.acks.length c7,.slice A8 x.votes.length c8]] w fun e' w'=>∃ D6 d6 D7 d7 D8 d8 D9 d9,e'=.returned (.tuple #[.agg #[.int .i64 y.id,.int .i64 y.n,.int .i64 y.view,.int .i64 y.last,.bool y.works,.int .i64 y.commit,.slice D6 y.log.length d6,.slice D7 y.acks.length d7,.slice D8 y.votes.length d8],.slice D9 y.told.length d9,.int .i64 e])∧y.told.length≤d9∧Stays w' (fun W=>Arg W y D6 D7 D8 d6 d7 d8∧Kd.C k28 W D9 y.told.length y.told)∧Below w.heap.size w w':=by
 refine (timeout_calls x A6 A7 A8 c6 c7 c8 w ha).mono fun e' w' hb=>?_
 rw [h] at hb
 exact hb.stays hf
theorem is_stays {x:Nod} {r:Bool} (h:isB x=r) {A6 A7 A8:Option Addr} {c6 c7 c8:Nat} {w:World} (ha:Arg w x A6 A7 A8 c6 c7 c8) :
  Calls Tryz.prog 20 #[.agg #[.int .i64 x.id,.int .i64 x.n,.int .i64 x.view,.int .i64 x.last,.bool x.works,.int .i64 x.commit,.slice A6 x.log.length c6,.slice A7 x.acks.length c7,.slice A8 x.votes.length c8]] w fun e w'=>e=.returned (.bool r)∧Below w.heap.size w w':=by
 subst h
 exact is_calls x.id x.n x.view x.last x.works x.commit x.log x.acks x.votes x.told A6 A7 A8 c6 c7 c8 w ha.h6 ha.l6 ha.h7 ha.l7 ha.h8 ha.l8 ha.hl ha.ha ha.hvl ha.hv
theorem far_stays {x:Nod} {m:S28} {s:ByteArray} {K:Nat} {r:Bool} (h:sextonlaw24_far.f K x.id x.n x.view x.last x.works x.commit x.log x.acks x.votes m.f0 m.f1 m.f2 m.f3 m.f4 m.f5 m.f6 m.f7 s=some r) {A6 A7 A8 A:Option Addr} {c6 c7 c8 c:Nat} {w:World} (h6:Kd.C Kd.string w A6 x.log.length x.log) (l6:x.log.length≤c6) (h7:Kd.C (Kd.int .i64) w A7 x.acks.length x.acks) (l7:x.acks.length≤c7) (h8:Kd.C k63 w A8 x.votes.length x.votes) (l8:x.votes.length≤c8) (hm:Kd.C Kd.string w A m.f7.length m.f7) (lm:m.f7.length≤c) :
  Calls Tryz.prog 4 #[.agg #[.int .i64 x.id,.int .i64 x.n,.int .i64 x.view,.int .i64 x.last,.bool x.works,.int .i64 x.commit,.slice A6 x.log.length c6,.slice A7 x.acks.length c7,.slice A8 x.votes.length c8],.agg #[.int .i64 m.f0,.int .i64 m.f1,.int .i64 m.f2,.int .i64 m.f3,.int .i64 m.f4,.int .i64 m.f5,.int .i64 m.f6,.slice A m.f7.length c],.string s] w fun e w'=>e=.returned (.bool r)∧Below w.heap.size w w' :=
 sextonlaw24_far.calls K x.id x.n x.view x.last x.works x.commit A6 c6 x.log A7 c7 x.acks A8 c8 x.votes m.f0 m.f1 m.f2 m.f3 m.f4 m.f5 m.f6 A c m.f7 s r w h6 l6 h7 l7 h8 l8 hm lm h
end Go.Proofs.YtfpfpckocemmdaaGreat.P
