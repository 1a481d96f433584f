/- Part 16 of the walk. -/
import Derived.Test.YtfpfpckocemmdaaGreatCDoes15
import Derived.Tactics2
import Derived.Defers
import Derived.Recover
set_option linter.unusedVariables false
set_option linter.unusedSimpArgs false
set_option maxHeartbeats 8000000
set_option maxRecDepth 100000
namespace Go.Proofs.YtfpfpckocemmdaaGreat.P
open Go.RowKit Go.Proofs.YtfpfpckocemmdaaGreatW.PrintWords Go.Proofs.YtfpfpckocemmdaaGreatW.PrintLast Go.Proofs.YtfpfpckocemmdaaGreatW.PrintMore
section
def zeroNode:Array Value:=#[.int .i64 0,.int .i64 0,.int .i64 0,.int .i64 0,.bool false,.int .i64 0,.slice none 0 0,.slice none 0 0,.slice none 0 0]
section
variable {P:Program} {ops:Array Oper} {Q:Exit→Act→List Frame→World→Prop} {rest:List Nat} {a:Act} {cs:List Frame} {w w':World} {i:Nat} {o:Oper} {v:Value}
theorem opsS_value (ho:ops[i]?=some o) (hg:o.guard=none) (hr:(execOp a.eval o).run P w=.ok (.value v) w') (h:wpOpsS P ops Q rest (a.put o.dst v) cs w'):wpOpsS P ops Q (i::rest) a cs w:=by
 have hw:Region.wanted o (yielded ops a.tmps)=true:=by simp [Region.wanted,hg]
 simp only [wpOpsS,ho,hw,if_true,hr,Oper.upon]
 exact h
theorem opsS_recover (ho:ops[i]?=some o) (hg:o.guard=none) (hr:(execOp a.eval o).run P w=.ok .recover w') {cs':List Frame} (hd:recoverD cs=some (v,cs')) (h:wpOpsS P ops Q rest (a.put o.dst v) cs' w'):wpOpsS P ops Q (i::rest) a cs w:=by
 have hw:Region.wanted o (yielded ops a.tmps)=true:=by simp [Region.wanted,hg]
 simp only [wpOpsS,ho,hw,if_true,hr,hd]
 exact h
theorem opsS_recover_none (ho:ops[i]?=some o) (hg:o.guard=none) (hr:(execOp a.eval o).run P w=.ok .recover w') (hd:recoverD cs=none) (h:wpOpsS P ops Q rest (a.put o.dst .nilIface) cs w'):wpOpsS P ops Q (i::rest) a cs w:=by
 have hw:Region.wanted o (yielded ops a.tmps)=true:=by simp [Region.wanted,hg]
 simp only [wpOpsS,ho,hw,if_true,hr,hd]
 exact h
end
theorem caught_idle (p q r:Addr) (w:World) :
  CallsD Tryz.prog 26 #[.pointer (some p),.pointer (some q),.pointer (some r)] .returning w fun e u' w'=>e=.returned (.tuple #[])∧u'=.returning∧w'=w:=by
 refine callsD_of_wpS Tryz.func26 rfl fun c₀ cs hu=>?_
 have e:(({ tmps:=#[.pointer (some p),.pointer (some q),.pointer (some r)]++Array.replicate (Tryz.f26.ntmps - (Array.size (#[.pointer (some p),.pointer (some q),.pointer (some r)]:Array Value))) undef,defers:=[] } : Act))={ tmps:=#[.pointer (some p),.pointer (some q),.pointer (some r),undef,undef,undef,undef,undef,undef,undef,undef,undef,undef,undef,undef,undef,undef,undef,undef,undef,undef,undef],defers:=[] }:=by kernel_rfl
 rw [e]
 clear e
 apply wpS_seq
 apply wpS_region
 show wpOpsS _ _ _ [0,1,2,3,4,5,6] _ _ _
 refine opsS_recover_none (w':=w) rfl rfl (by kernel_rfl) (by simp [recoverD,hu]) ?_
 refine opsS_value (v:=.tuple #[.int .i64 0,false]) (w':=w) rfl rfl (by kernel_rfl) ?_
 refine opsS_value (v:=.tuple #[.int .i64 0,false]) (w':=w) rfl rfl (by kernel_rfl) ?_
 refine opsS_value (v:=.int .i64 0) (w':=w) rfl rfl (by kernel_rfl) ?_
 refine opsS_value (v:=.bool false) (w':=w) rfl rfl (by kernel_rfl) ?_
 refine opsS_value (v:=.int .i64 0) (w':=w) rfl rfl (by kernel_rfl) ?_
 refine opsS_value (v:=.bool false) (w':=w) rfl rfl (by kernel_rfl) ?_
 show Code.wpS _ _ _ _ _ _
 refine wpS_of_wp ?_
 go_wp2
 exact ⟨rfl,.returning,by rw [← hu],.tuple #[],by kernel_rfl,rfl,rfl,rfl⟩
theorem caught_panicking (gy gl ge:Nat) (x:Int) (older:List PanicEntry) (w:World) (hy:w.heap[gy]?=some (.cells zeroNode 26 (0,0))) (hl:w.heap[gl]?=some (.cells #[.slice none 0 0] 31 (0,0))) (he:w.heap[ge]?=some (.cells #[.int .i64 0] 32 (0,0)))
  (n1:gy≠gl) (n2:gy≠ge) (n3:gl≠ge) :
  CallsD Tryz.prog 26 #[.pointer (some ⟨gy,0,none⟩),.pointer (some ⟨gl,0,none⟩),.pointer (some ⟨ge,0,none⟩)] (.panicking ({ v:=.iface 32 x,recovered:=false }::older)) w fun e u' w'=>e=.returned (.tuple #[])∧u'=.panicking ({ v:=.iface 32 x,recovered:=true }::older) ∧
   w'.heap[gy]?=some (.cells zeroNode 26 (0,0))∧w'.heap[gl]?=some (.cells #[.slice none 0 0] 31 (0,0))∧w'.heap[ge]?=some (.cells #[x] 32 (0,0))∧(∀ B,B≤gy→B≤gl→B≤ge→Below B w w'):=by
 refine callsD_of_wpS Tryz.func26 rfl fun c₀ cs hu=>?_
 have e:(({ tmps:=#[.pointer (some ⟨gy,0,none⟩),.pointer (some ⟨gl,0,none⟩),.pointer (some ⟨ge,0,none⟩)]++Array.replicate (Tryz.f26.ntmps - (Array.size (#[.pointer (some ⟨gy,0,none⟩),.pointer (some ⟨gl,0,none⟩),.pointer (some ⟨ge,0,none⟩)]:Array Value))) undef,defers:=[] } : Act))={ tmps:=#[.pointer (some ⟨gy,0,none⟩),.pointer (some ⟨gl,0,none⟩),.pointer (some ⟨ge,0,none⟩),undef,undef,undef,undef,undef,undef,undef,undef,undef,undef,undef,undef,undef,undef,undef,undef,undef,undef,undef],defers:=[] }:=by kernel_rfl
 rw [e]
 clear e
 have hu26:=Tryz.underlying26
 apply wpS_seq
 apply wpS_region
 show wpOpsS _ _ _ [0,1,2,3,4,5,6] _ _ _
 refine opsS_recover (v:=.iface 32 x) (cs':={ c₀ with mode:=.panicking ({ v:=.iface 32 x,recovered:=true }::older) }::cs) (w':=w) rfl rfl (by kernel_rfl) (by simp [recoverD,hu]) ?_
 refine opsS_value (v:=.tuple #[x,true]) (w':=w) rfl rfl (by kernel_rfl) ?_
 refine opsS_value (v:=.tuple #[x,true]) (w':=w) rfl rfl (by kernel_rfl) ?_
 refine opsS_value (v:=.int .i64 x) (w':=w) rfl rfl (by kernel_rfl) ?_
 refine opsS_value (v:=.bool true) (w':=w) rfl rfl (by kernel_rfl) ?_
 refine opsS_value (v:=.int .i64 x) (w':=w) rfl rfl (by kernel_rfl) ?_
 refine opsS_value (v:=.bool true) (w':=w) rfl rfl (by kernel_rfl) ?_
 show Code.wpS _ _ _ _ _ _
 refine wpS_of_wp ?_
 have hc0:w.cell? ⟨gy,0,none⟩=some (.int .i64 0):=(blk_cell hy 0).trans rfl
 have hf0:=blk_frozen hy 0
 have hc1:w.cell? ⟨gy,1,none⟩=some (.int .i64 0):=(blk_cell hy 1).trans rfl
 have hf1:=blk_frozen hy 1
 have hc2:w.cell? ⟨gy,2,none⟩=some (.int .i64 0):=(blk_cell hy 2).trans rfl
 have hf2:=blk_frozen hy 2
 have hc3:w.cell? ⟨gy,3,none⟩=some (.int .i64 0):=(blk_cell hy 3).trans rfl
 have hf3:=blk_frozen hy 3
 have hc4:w.cell? ⟨gy,4,none⟩=some (.bool false):=(blk_cell hy 4).trans rfl
 have hf4:=blk_frozen hy 4
 have hc5:w.cell? ⟨gy,5,none⟩=some (.int .i64 0):=(blk_cell hy 5).trans rfl
 have hf5:=blk_frozen hy 5
 have hc6:w.cell? ⟨gy,6,none⟩=some (.slice none 0 0):=(blk_cell hy 6).trans rfl
 have hf6:=blk_frozen hy 6
 have hc7:w.cell? ⟨gy,7,none⟩=some (.slice none 0 0):=(blk_cell hy 7).trans rfl
 have hf7:=blk_frozen hy 7
 have hc8:w.cell? ⟨gy,8,none⟩=some (.slice none 0 0):=(blk_cell hy 8).trans rfl
 have hf8:=blk_frozen hy 8
 have hl0:w.cell? ⟨gl,0,none⟩=some (.slice none 0 0):=(blk_cell hl 0).trans rfl
 have hl1:=blk_frozen hl 0
 have he0:w.cell? ⟨ge,0,none⟩=some (.int .i64 0):=(blk_cell he 0).trans rfl
 have he1:=blk_frozen he 0
 have m1:=n1.symm
 have m2:=n2.symm
 have m3:=n3.symm
 have HY:=sd hy
 have HL:=sd hl
 have HE:=sd he
 clear hy hl he
 go_wp2
 refine ⟨rfl,.panicking ({ v:=.iface 32 x,recovered:=true }::older),rfl,.tuple #[],by kernel_rfl,rfl,rfl,?_,?_,?_,fun B h1 h2 h3=>?_⟩
 ·exact blk_far (blk_far (blk_put (cs':=zeroNode) (blk_put (cs':=zeroNode) (blk_put (cs':=zeroNode) (blk_put (cs':=zeroNode) (blk_put (cs':=zeroNode) (blk_put (cs':=zeroNode) (blk_put (cs':=zeroNode) (blk_put (cs':=zeroNode) (blk_put (cs':=zeroNode) HY.out 0 _ rfl) 1 _ rfl) 2 _ rfl) 3 _ rfl) 4 _ rfl) 5 _ rfl) 6 _ rfl) 7 _ rfl) 8 _ rfl) n1 _) n2 _
 ·exact blk_far (blk_put (cs':=#[.slice none 0 0]) (blk_far (blk_far (blk_far (blk_far (blk_far (blk_far (blk_far (blk_far (blk_far HL.out m1 _) m1 _) m1 _) m1 _) m1 _) m1 _) m1 _) m1 _) m1 _) 0 _ rfl) n3 _
 ·exact blk_put (cs':=#[x]) (blk_far (blk_far (blk_far (blk_far (blk_far (blk_far (blk_far (blk_far (blk_far (blk_far HE.out m2 _) m2 _) m2 _) m2 _) m2 _) m2 _) m2 _) m2 _) m2 _) m3 _) 0 _ rfl
 ·exact below_at (below_at (below_at (below_at (below_at (below_at (below_at (below_at (below_at (below_at (below_at (Below.refl B w) h1) h1) h1) h1) h1) h1) h1) h1) h1) h2) h3
theorem five_zero {W:World} {g:Nat} (h:W.heap[g]?=some (.cells #[.int .i64 0,.int .i64 0,.int .i64 0,.int .i64 0,false,.int .i64 0,.slice none 0 0,.slice none 0 0,.slice none 0 0] 26 (0,0))):W.heap[g]?=some (.cells zeroNode 26 (0,0)):=h
theorem new_keeps {W:World} {g:Nat} {o:Obj} (h:W.heap[g]?=some o) (o':Obj):(W.alloc o').heap[g]?=some o:=(Below.heap_alloc W o' g (Array.getElem?_eq_some_iff.1 h).1).trans h
theorem new4 (w:World) (o1 o2 o3 o4:Obj):Below w.heap.size w ((((w.alloc o1).alloc o2).alloc o3).alloc o4)∧((((w.alloc o1).alloc o2).alloc o3).alloc o4).heap.size=w.heap.size+4∧((((w.alloc o1).alloc o2).alloc o3).alloc o4).heap[w.heap.size]?=some o1∧((((w.alloc o1).alloc o2).alloc o3).alloc o4).heap[w.heap.size+1]?=some o2∧((((w.alloc o1).alloc o2).alloc o3).alloc o4).heap[w.heap.size+1+1]?=some o3∧((((w.alloc o1).alloc o2).alloc o3).alloc o4).heap[w.heap.size+1+1+1]?=some o4:=by
 refine ⟨(below_alloc (below_alloc (below_alloc (below_alloc (Below.refl _ _) _) _) _) _),by simp,?_,?_,?_,?_⟩
 ·have h:=x_alloc_new w o1
  rw [show w.heap.size=w.heap.size by simp] at h
  exact (new_keeps (new_keeps (new_keeps h _) _) _)
 ·have h:=x_alloc_new (w.alloc o1) o2
  rw [show (w.alloc o1).heap.size=w.heap.size+1 by simp] at h
  exact (new_keeps (new_keeps h _) _)
 ·have h:=x_alloc_new ((w.alloc o1).alloc o2) o3
  rw [show ((w.alloc o1).alloc o2).heap.size=w.heap.size+1+1 by simp] at h
  exact (new_keeps h _)
 ·have h:=x_alloc_new (((w.alloc o1).alloc o2).alloc o3) o4
  rw [show (((w.alloc o1).alloc o2).alloc o3).heap.size=w.heap.size+1+1+1 by simp] at h
  exact h
theorem new5 (w:World) (o1 o2 o3 o4 o5:Obj):Below w.heap.size w (((((w.alloc o1).alloc o2).alloc o3).alloc o4).alloc o5)∧(((((w.alloc o1).alloc o2).alloc o3).alloc o4).alloc o5).heap.size=w.heap.size+5∧(((((w.alloc o1).alloc o2).alloc o3).alloc o4).alloc o5).heap[w.heap.size]?=some o1∧(((((w.alloc o1).alloc o2).alloc o3).alloc o4).alloc o5).heap[w.heap.size+1]?=some o2∧(((((w.alloc o1).alloc o2).alloc o3).alloc o4).alloc o5).heap[w.heap.size+1+1]?=some o3∧(((((w.alloc o1).alloc o2).alloc o3).alloc o4).alloc o5).heap[w.heap.size+1+1+1]?=some o4∧(((((w.alloc o1).alloc o2).alloc o3).alloc o4).alloc o5).heap[w.heap.size+1+1+1+1]?=some o5:=by
 refine ⟨(below_alloc (below_alloc (below_alloc (below_alloc (below_alloc (Below.refl _ _) _) _) _) _) _),by simp,?_,?_,?_,?_,?_⟩
 ·have h:=x_alloc_new w o1
  rw [show w.heap.size=w.heap.size by simp] at h
  exact (new_keeps (new_keeps (new_keeps (new_keeps h _) _) _) _)
 ·have h:=x_alloc_new (w.alloc o1) o2
  rw [show (w.alloc o1).heap.size=w.heap.size+1 by simp] at h
  exact (new_keeps (new_keeps (new_keeps h _) _) _)
 ·have h:=x_alloc_new ((w.alloc o1).alloc o2) o3
  rw [show ((w.alloc o1).alloc o2).heap.size=w.heap.size+1+1 by simp] at h
  exact (new_keeps (new_keeps h _) _)
 ·have h:=x_alloc_new (((w.alloc o1).alloc o2).alloc o3) o4
  rw [show (((w.alloc o1).alloc o2).alloc o3).heap.size=w.heap.size+1+1+1 by simp] at h
  exact (new_keeps h _)
 ·have h:=x_alloc_new ((((w.alloc o1).alloc o2).alloc o3).alloc o4) o5
  rw [show ((((w.alloc o1).alloc o2).alloc o3).alloc o4).heap.size=w.heap.size+1+1+1+1 by simp] at h
  exact h
end
def Res (w:World) (base:Nat) (x:Nod) (v6 v7 v8 v9:Value):Prop:=∃ (P6 P7 P8 P9:Nat→Prop),
 Kd.R Kd.string 9 w base P6 v6 x.log∧Kd.R (Kd.int .i64) 3 w base P7 v7 x.acks∧Kd.S k63 63 w base P8 v8 x.votes∧Kd.S k28 28 w base P9 v9 x.told ∧
 (∀ k,P6 k→¬ P7 k∧¬ P8 k∧¬ P9 k)∧(∀ k,P7 k→¬ P8 k∧¬ P9 k)∧(∀ k,P8 k→¬ P9 k)
def zeroNod:Nod:=⟨0,0,0,0,false,0,[],[],[],[]⟩
theorem res_zero (w:World) (base:Nat):Res w base zeroNod (.slice none 0 0) (.slice none 0 0) (.slice none 0 0) (.slice none 0 0):=⟨fun _=>False,fun _=>False,fun _=>False,fun _=>False,Kd.R_nil _ _ _ _ _,Kd.R_nil _ _ _ _ _,Kd.S_nil _ _ _ _ _,Kd.S_nil _ _ _ _ _,fun _ h=>h.elim,fun _ h=>h.elim,fun _ h=>h.elim⟩
theorem Nd.res2 {w:World} {base g:Nat} {ok:Nat→Prop} {x:Nod} (h:Nd w base g ok x):∃ A6 c6 A7 c7 A8 c8 A9 c9,w.heap[g]?=some (.cells (x.cells (.slice A6 x.log.length c6) (.slice A7 x.acks.length c7) (.slice A8 x.votes.length c8) (.slice A9 x.told.length c9)) 56 (0,0)) ∧
  ∀ w1:World,(∀ k,base≤k→k < w.heap.size→k≠g→w1.heap[k]?=w.heap[k]?)→Res w1 base x (.slice A6 x.log.length c6) (.slice A7 x.acks.length c7) (.slice A8 x.votes.length c8) (.slice A9 x.told.length c9):=by
 obtain ⟨v6,v7,v8,v9,P6,P7,P8,P9,hb,hg,hok,h6,h7,h8,h9,ho,a6,a7,a8⟩:=h.bound
 obtain ⟨A6,c6,rfl⟩:=Kd.R_slice h6
 obtain ⟨A7,c7,rfl⟩:=Kd.R_slice h7
 obtain ⟨A8,c8,rfl⟩:=Kd.S_slice h8
 obtain ⟨A9,c9,rfl⟩:=Kd.S_slice h9
 refine ⟨A6,c6,A7,c7,A8,c8,A9,c9,hb,fun w1 hm=>?_⟩
 exact ⟨P6,P7,P8,P9,Kd.R_step h6 (fun k hk hl=>hm k (ho k (.inl hk)).1.2.2 hl (ho k (.inl hk)).2),Kd.R_step h7 (fun k hk hl=>hm k (ho k (.inr (.inl hk))).1.2.2 hl (ho k (.inr (.inl hk))).2),Kd.S_step h8 (fun k hk hl=>hm k (ho k (.inr (.inr (.inl hk)))).1.2.2 hl (ho k (.inr (.inr (.inl hk)))).2),Kd.S_step h9 (fun k hk hl=>hm k (ho k (.inr (.inr (.inr hk)))).1.2.2 hl (ho k (.inr (.inr (.inr hk)))).2),a6,a7,a8⟩
theorem Res.lower {w:World} {b b':Nat} {x:Nod} {v6 v7 v8 v9:Value} (h:Res w b x v6 v7 v8 v9) (hb:b'≤b):Res w b' x v6 v7 v8 v9:=by
 obtain ⟨P6,P7,P8,P9,h6,h7,h8,h9,a6,a7,a8⟩:=h
 exact ⟨P6,P7,P8,P9,Kd.R_lower h6 hb,Kd.R_lower h7 hb,Kd.S_lower h8 hb,Kd.S_lower h9 hb,a6,a7,a8⟩
theorem below_drew_any {B:Nat} {w W:World} (h:Below B w W):Below B w W.drew:=⟨h.os,h.tape,h.output,h.size,h.block⟩
theorem drew_heap_ (W:World):W.drew.heap=W.heap:=rfl
theorem stores_ret {w7:World} {gy gl ge:Nat} {b0 b1 b2 b3 b4 b5 b6 b7 b8 c9 c0:Value} (hy:w7.heap[gy]?=some (.cells #[b0,b1,b2,b3,b4,b5,b6,b7,b8] 26 (0,0))) (hl:w7.heap[gl]?=some (.cells #[c9] 31 (0,0))) (he:w7.heap[ge]?=some (.cells #[c0] 32 (0,0))) (nyl:gy≠gl) (nye:gy≠ge) (nle:gl≠ge) (a0 a1 a2 a3 a4 a5 a6 a7 a8 v9 x:Value) :
  (((((((((((w7.setCell ⟨gy,0,none⟩ a0).setCell ⟨gy,1,none⟩ a1).setCell ⟨gy,2,none⟩ a2).setCell ⟨gy,3,none⟩ a3).setCell ⟨gy,4,none⟩ a4).setCell ⟨gy,5,none⟩ a5).setCell ⟨gy,6,none⟩ a6).setCell ⟨gy,7,none⟩ a7).setCell ⟨gy,8,none⟩ a8).setCell ⟨gl,0,none⟩ v9).setCell ⟨ge,0,none⟩ x).drew.heap[gy]?=some (.cells #[a0,a1,a2,a3,a4,a5,a6,a7,a8] 26 (0,0))∧(((((((((((w7.setCell ⟨gy,0,none⟩ a0).setCell ⟨gy,1,none⟩ a1).setCell ⟨gy,2,none⟩ a2).setCell ⟨gy,3,none⟩ a3).setCell ⟨gy,4,none⟩ a4).setCell ⟨gy,5,none⟩ a5).setCell ⟨gy,6,none⟩ a6).setCell ⟨gy,7,none⟩ a7).setCell ⟨gy,8,none⟩ a8).setCell ⟨gl,0,none⟩ v9).setCell ⟨ge,0,none⟩ x).drew.cell? ⟨gl,0,none⟩=some v9∧(((((((((((w7.setCell ⟨gy,0,none⟩ a0).setCell ⟨gy,1,none⟩ a1).setCell ⟨gy,2,none⟩ a2).setCell ⟨gy,3,none⟩ a3).setCell ⟨gy,4,none⟩ a4).setCell ⟨gy,5,none⟩ a5).setCell ⟨gy,6,none⟩ a6).setCell ⟨gy,7,none⟩ a7).setCell ⟨gy,8,none⟩ a8).setCell ⟨gl,0,none⟩ v9).setCell ⟨ge,0,none⟩ x).drew.cell? ⟨ge,0,none⟩=some x ∧
  (∀ k,k≠gy→k≠gl→k≠ge→(((((((((((w7.setCell ⟨gy,0,none⟩ a0).setCell ⟨gy,1,none⟩ a1).setCell ⟨gy,2,none⟩ a2).setCell ⟨gy,3,none⟩ a3).setCell ⟨gy,4,none⟩ a4).setCell ⟨gy,5,none⟩ a5).setCell ⟨gy,6,none⟩ a6).setCell ⟨gy,7,none⟩ a7).setCell ⟨gy,8,none⟩ a8).setCell ⟨gl,0,none⟩ v9).setCell ⟨ge,0,none⟩ x).drew.heap[k]?=w7.heap[k]?)∧(∀ B,B≤gy→B≤gl→B≤ge→Below B w7 (((((((((((w7.setCell ⟨gy,0,none⟩ a0).setCell ⟨gy,1,none⟩ a1).setCell ⟨gy,2,none⟩ a2).setCell ⟨gy,3,none⟩ a3).setCell ⟨gy,4,none⟩ a4).setCell ⟨gy,5,none⟩ a5).setCell ⟨gy,6,none⟩ a6).setCell ⟨gy,7,none⟩ a7).setCell ⟨gy,8,none⟩ a8).setCell ⟨gl,0,none⟩ v9).setCell ⟨ge,0,none⟩ x).drew):=by
 have p0:=blk_put (cs':=#[a0,b1,b2,b3,b4,b5,b6,b7,b8]) hy 0 a0 rfl
 have p1:=blk_put (cs':=#[a0,a1,b2,b3,b4,b5,b6,b7,b8]) p0 1 a1 rfl
 have p2:=blk_put (cs':=#[a0,a1,a2,b3,b4,b5,b6,b7,b8]) p1 2 a2 rfl
 have p3:=blk_put (cs':=#[a0,a1,a2,a3,b4,b5,b6,b7,b8]) p2 3 a3 rfl
 have p4:=blk_put (cs':=#[a0,a1,a2,a3,a4,b5,b6,b7,b8]) p3 4 a4 rfl
 have p5:=blk_put (cs':=#[a0,a1,a2,a3,a4,a5,b6,b7,b8]) p4 5 a5 rfl
 have p6:=blk_put (cs':=#[a0,a1,a2,a3,a4,a5,a6,b7,b8]) p5 6 a6 rfl
 have p7:=blk_put (cs':=#[a0,a1,a2,a3,a4,a5,a6,a7,b8]) p6 7 a7 rfl
 have p8:=blk_put (cs':=#[a0,a1,a2,a3,a4,a5,a6,a7,a8]) p7 8 a8 rfl
 have y1:=blk_far (p:=⟨ge,0,none⟩) (blk_far (p:=⟨gl,0,none⟩) p8 nyl v9) nye x
 have l_0:=blk_far (p:=⟨gy,0,none⟩) hl nyl.symm a0
 have l_1:=blk_far (p:=⟨gy,1,none⟩) l_0 nyl.symm a1
 have l_2:=blk_far (p:=⟨gy,2,none⟩) l_1 nyl.symm a2
 have l_3:=blk_far (p:=⟨gy,3,none⟩) l_2 nyl.symm a3
 have l_4:=blk_far (p:=⟨gy,4,none⟩) l_3 nyl.symm a4
 have l_5:=blk_far (p:=⟨gy,5,none⟩) l_4 nyl.symm a5
 have l_6:=blk_far (p:=⟨gy,6,none⟩) l_5 nyl.symm a6
 have l_7:=blk_far (p:=⟨gy,7,none⟩) l_6 nyl.symm a7
 have l_8:=blk_far (p:=⟨gy,8,none⟩) l_7 nyl.symm a8
 have e_0:=blk_far (p:=⟨gy,0,none⟩) he nye.symm a0
 have e_1:=blk_far (p:=⟨gy,1,none⟩) e_0 nye.symm a1
 have e_2:=blk_far (p:=⟨gy,2,none⟩) e_1 nye.symm a2
 have e_3:=blk_far (p:=⟨gy,3,none⟩) e_2 nye.symm a3
 have e_4:=blk_far (p:=⟨gy,4,none⟩) e_3 nye.symm a4
 have e_5:=blk_far (p:=⟨gy,5,none⟩) e_4 nye.symm a5
 have e_6:=blk_far (p:=⟨gy,6,none⟩) e_5 nye.symm a6
 have e_7:=blk_far (p:=⟨gy,7,none⟩) e_6 nye.symm a7
 have e_8:=blk_far (p:=⟨gy,8,none⟩) e_7 nye.symm a8
 have l9:=blk_far (p:=⟨ge,0,none⟩) (blk_put (cs':=#[v9]) l_8 0 v9 rfl) nle x
 have e9:=blk_put (cs':=#[x]) (blk_far (p:=⟨gl,0,none⟩) e_8 nle.symm v9) 0 x rfl
 refine ⟨blk_drew y1,(blk_cell (blk_drew l9) 0).trans rfl,(blk_cell (blk_drew e9) 0).trans rfl,?_,?_⟩
 ·intro k h1 h2 h3
  have h:=fun (W:World) (v:Value) (j:Nat)=>Below.heap_setCell W ⟨gy,j,none⟩ v k h1
  have hl':=fun (W:World) (v:Value)=>Below.heap_setCell W ⟨gl,0,none⟩ v k h2
  have he':=fun (W:World) (v:Value)=>Below.heap_setCell W ⟨ge,0,none⟩ v k h3
  rw [drew_heap_,he',hl',h,h,h,h,h,h,h,h,h]
 ·intro B h1 h2 h3
  have k0:=below_at (j:=0) (v:=a0) (Below.refl B w7) h1
  have k1:=below_at (j:=1) (v:=a1) k0 h1
  have k2:=below_at (j:=2) (v:=a2) k1 h1
  have k3:=below_at (j:=3) (v:=a3) k2 h1
  have k4:=below_at (j:=4) (v:=a4) k3 h1
  have k5:=below_at (j:=5) (v:=a5) k4 h1
  have k6:=below_at (j:=6) (v:=a6) k5 h1
  have k7:=below_at (j:=7) (v:=a7) k6 h1
  have k8:=below_at (j:=8) (v:=a8) k7 h1
  have h:=below_at (j:=0) (v:=x) (below_at (j:=0) (v:=v9) k8 h2) h3
  exact below_drew_any h
theorem run_loadVar_one {P:Program} (w:World) (g ty:Nat) (v:Value) (d:TypeDesc) (hc:w.cell? ⟨g,0,none⟩=some v) (hu:P.underlying ty=some d) (hd:(match d with | .struct _ | .array _ _=>true | _=>false)=false):(loadVar ty ⟨g,0,none⟩).run P w=.ok v w:=by
 unfold loadVar isAgg
 simp only [Sem.run_bind,run_underlying hu,Result.andThen_ok]
 cases d<;>simp_all [go_sem]
theorem results_8 {fn:Func} {p q r:Tmp} (h:fn.results=#[.cell p 26,.cell q 31,.cell r 32]) (tmps:Array Value) (w:World) (gy gl ge:Nat) (t:TypeId) (cs:Array Value) (fr:Nat×Nat) (v9:Value) (x:Int)
  (h1:tmps.getD p undef=.pointer (some ⟨gy,0,none⟩)) (h2:tmps.getD q undef=.pointer (some ⟨gl,0,none⟩)) (h3:tmps.getD r undef=.pointer (some ⟨ge,0,none⟩)) (hg:w.heap[gy]?=some (.cells cs t fr)) (hs:cs.size=9)
  (hl:w.cell? ⟨gl,0,none⟩=some v9) (he:w.cell? ⟨ge,0,none⟩=some (.int .i64 x)) :
  (results fn tmps).run Tryz.prog w=.ok (.tuple #[.agg cs,v9,x]) w:=by
 have h1':tmps[p]?.getD undef=.pointer (some ⟨gy,0,none⟩):=by simpa using h1
 have h2':tmps[q]?.getD undef=.pointer (some ⟨gl,0,none⟩):=by simpa using h2
 have h3':tmps[r]?.getD undef=.pointer (some ⟨ge,0,none⟩):=by simpa using h3
 have hi:(Tryz.prog.info? 26).map (·.size)=some cs.size:=by rw [hs];kernel_rfl
 have r1:=run_loadVar_row (P:=Tryz.prog) w gy t 26 cs fr _ hg Tryz.underlying26 rfl hi
 have r2:=run_loadVar_one (P:=Tryz.prog) w gl 31 v9 _ hl Tryz.underlying31 rfl
 have r3:=run_loadVar_one (P:=Tryz.prog) w ge 32 _ _ he Tryz.underlying32 rfl
 simp [results,h,h1',h2',h3',asAddr,r1,r2,r3]
theorem handle_not (id n view last:Int) (works:Bool) (commit:Int) (log:List ByteArray) (acks:List Int) (votes:List S63) (told:List S28) (A6 A7 A8:Option Addr) (c6 c7 c8:Nat) (w:World) (h6:Kd.C Kd.string w A6 log.length log) (l6:log.length≤c6) (h7:Kd.C (Kd.int .i64) w A7 acks.length acks) (l7:acks.length≤c7) (h8:Kd.C k63 w A8 votes.length votes) (l8:votes.length≤c8)
  (hl:log.length < 4398046511104) (ha:acks.length < 4398046511104) (hvl:votes.length < 4398046511104) (hv:∀ v,v∈votes→v.f3.length < 4398046511104∧(Lit.int .i64 v.f0).wf=true) (m:S28) (A:Option Addr) (c:Nat) (his:isB ⟨id,n,view,last,works,commit,log,acks,votes,told⟩=false) :
  Calls Tryz.prog 10 #[.agg #[id,n,view,last,works,commit,.slice A6 log.length c6,.slice A7 acks.length c7,.slice A8 votes.length c8],.agg #[m.f0,m.f1,m.f2,m.f3,m.f4,m.f5,m.f6,.slice A m.f7.length c]] w fun e w'=>∃ v6 v7 v8 v9,e=.returned (.tuple #[.agg #[zeroNod.id,zeroNod.n,zeroNod.view,zeroNod.last,zeroNod.works,zeroNod.commit,v6,v7,v8],v9,.int .i64 1])∧Res w' w.heap.size zeroNod v6 v7 v8 v9∧Below w.heap.size w w':=by
 have hu26:=Tryz.underlying26
 have hu28:=Tryz.underlying28
 have HO:=sd (open_not id n view last works commit log acks votes told A6 A7 A8 c6 c7 c8 (((((w.alloc (.cells #[id,n,view,last,works,commit,.slice A6 log.length c6,.slice A7 acks.length c7,.slice A8 votes.length c8] 26)).alloc (.cells #[m.f0,m.f1,m.f2,m.f3,m.f4,m.f5,m.f6,.slice A m.f7.length c] 28)).alloc (.cells #[.int .i64 0,.int .i64 0,.int .i64 0,.int .i64 0,false,.int .i64 0,.slice none 0 0,.slice none 0 0,.slice none 0 0] 26)).alloc (.cells #[.slice none 0 0] 31)).alloc (.cells #[.int .i64 0] 32)) (Kd.C_alloc (Kd.C_alloc (Kd.C_alloc (Kd.C_alloc (Kd.C_alloc h6 _) _) _) _) _) l6 (Kd.C_alloc (Kd.C_alloc (Kd.C_alloc (Kd.C_alloc (Kd.C_alloc h7 _) _) _) _) _) l7 (Kd.C_alloc (Kd.C_alloc (Kd.C_alloc (Kd.C_alloc (Kd.C_alloc h8 _) _) _) _) _) l8 hl ha hvl hv his)
 have HB3:=sd (show (((((w.alloc (.cells #[id,n,view,last,works,commit,.slice A6 log.length c6,.slice A7 acks.length c7,.slice A8 votes.length c8] 26)).alloc (.cells #[m.f0,m.f1,m.f2,m.f3,m.f4,m.f5,m.f6,.slice A m.f7.length c] 28)).alloc (.cells #[.int .i64 0,.int .i64 0,.int .i64 0,.int .i64 0,false,.int .i64 0,.slice none 0 0,.slice none 0 0,.slice none 0 0] 26)).alloc (.cells #[.slice none 0 0] 31)).alloc (.cells #[.int .i64 0] 32)).heap[w.heap.size+1+1]?=some (.cells zeroNode 26 (0,0)) from blk_alloc (blk_alloc (by have h:=x_alloc_new ((w.alloc (.cells #[id,n,view,last,works,commit,.slice A6 log.length c6,.slice A7 acks.length c7,.slice A8 votes.length c8] 26)).alloc (.cells #[m.f0,m.f1,m.f2,m.f3,m.f4,m.f5,m.f6,.slice A m.f7.length c] 28)) (.cells #[.int .i64 0,.int .i64 0,.int .i64 0,.int .i64 0,false,.int .i64 0,.slice none 0 0,.slice none 0 0,.slice none 0 0] 26);simpa [zeroNode] using h) _) _)
 have HB4:=sd (show (((((w.alloc (.cells #[id,n,view,last,works,commit,.slice A6 log.length c6,.slice A7 acks.length c7,.slice A8 votes.length c8] 26)).alloc (.cells #[m.f0,m.f1,m.f2,m.f3,m.f4,m.f5,m.f6,.slice A m.f7.length c] 28)).alloc (.cells #[.int .i64 0,.int .i64 0,.int .i64 0,.int .i64 0,false,.int .i64 0,.slice none 0 0,.slice none 0 0,.slice none 0 0] 26)).alloc (.cells #[.slice none 0 0] 31)).alloc (.cells #[.int .i64 0] 32)).heap[w.heap.size+1+1+1]?=some (.cells #[.slice none 0 0] 31 (0,0)) from blk_alloc (by have h:=x_alloc_new (((w.alloc (.cells #[id,n,view,last,works,commit,.slice A6 log.length c6,.slice A7 acks.length c7,.slice A8 votes.length c8] 26)).alloc (.cells #[m.f0,m.f1,m.f2,m.f3,m.f4,m.f5,m.f6,.slice A m.f7.length c] 28)).alloc (.cells #[.int .i64 0,.int .i64 0,.int .i64 0,.int .i64 0,false,.int .i64 0,.slice none 0 0,.slice none 0 0,.slice none 0 0] 26)) (.cells #[.slice none 0 0] 31);simpa using h) _)
 have HB5:=sd (show (((((w.alloc (.cells #[id,n,view,last,works,commit,.slice A6 log.length c6,.slice A7 acks.length c7,.slice A8 votes.length c8] 26)).alloc (.cells #[m.f0,m.f1,m.f2,m.f3,m.f4,m.f5,m.f6,.slice A m.f7.length c] 28)).alloc (.cells #[.int .i64 0,.int .i64 0,.int .i64 0,.int .i64 0,false,.int .i64 0,.slice none 0 0,.slice none 0 0,.slice none 0 0] 26)).alloc (.cells #[.slice none 0 0] 31)).alloc (.cells #[.int .i64 0] 32)).heap[w.heap.size+1+1+1+1]?=some (.cells #[.int .i64 0] 32 (0,0)) from by have h:=x_alloc_new ((((w.alloc (.cells #[id,n,view,last,works,commit,.slice A6 log.length c6,.slice A7 acks.length c7,.slice A8 votes.length c8] 26)).alloc (.cells #[m.f0,m.f1,m.f2,m.f3,m.f4,m.f5,m.f6,.slice A m.f7.length c] 28)).alloc (.cells #[.int .i64 0,.int .i64 0,.int .i64 0,.int .i64 0,false,.int .i64 0,.slice none 0 0,.slice none 0 0,.slice none 0 0] 26)).alloc (.cells #[.slice none 0 0] 31)) (.cells #[.int .i64 0] 32);simpa using h)
 clear h6 l6 h7 l7 h8 l8 hl ha hvl hv his
 go_enter_defers Tryz.func10,Tryz.ntmps10
 go_wp2_with ((go_at_call 27;refine HO.out.mono ?_;rintro e w6 ⟨rfl,hb6⟩;have HB6:=sd hb6;clear hb6))
 have sz:(((((w.alloc (.cells #[id,n,view,last,works,commit,.slice A6 log.length c6,.slice A7 acks.length c7,.slice A8 votes.length c8] 26)).alloc (.cells #[m.f0,m.f1,m.f2,m.f3,m.f4,m.f5,m.f6,.slice A m.f7.length c] 28)).alloc (.cells #[.int .i64 0,.int .i64 0,.int .i64 0,.int .i64 0,false,.int .i64 0,.slice none 0 0,.slice none 0 0,.slice none 0 0] 26)).alloc (.cells #[.slice none 0 0] 31)).alloc (.cells #[.int .i64 0] 32)).heap.size=w.heap.size+5:=by simp
 have hby:=(HB6.out.block (w.heap.size+1+1) (by rw [sz];omega)).trans HB3.out
 have hbl:=(HB6.out.block (w.heap.size+1+1+1) (by rw [sz];omega)).trans HB4.out
 have hbe:=(HB6.out.block (w.heap.size+1+1+1+1) (by rw [sz];omega)).trans HB5.out
 refine leaves_cons (f:=26) (args:=#[.pointer (some ⟨w.heap.size+1+1,0,none⟩),.pointer (some ⟨w.heap.size+1+1+1,0,none⟩),.pointer (some ⟨w.heap.size+1+1+1+1,0,none⟩)]) (by simp) (by kernel_rfl) ?_
 refine (caught_panicking (w.heap.size+1+1) (w.heap.size+1+1+1) (w.heap.size+1+1+1+1) 1 [] w6 hby hbl hbe (by omega) (by omega) (by omega)).mono ?_
 rintro e u' w7 ⟨rfl,rfl,ky,kl,ke,kb⟩
 refine ⟨_,results_8 rfl _ _ (w.heap.size+1+1) (w.heap.size+1+1+1) (w.heap.size+1+1+1+1) 26 zeroNode (0,0) (.slice none 0 0) 1 rfl rfl rfl ky rfl ((blk_cell kl 0).trans rfl) ((blk_cell ke 0).trans rfl),.slice none 0 0,.slice none 0 0,.slice none 0 0,.slice none 0 0,rfl,res_zero _ _,?_⟩
 have hb1:Below w.heap.size w w6:=below_step (below_alloc (below_alloc (below_alloc (below_alloc (below_alloc (Below.refl _ _) _) _) _) _) _) HB6.out
 exact hb1.trans (kb w.heap.size (by omega) (by omega) (by omega))
end Go.Proofs.YtfpfpckocemmdaaGreat.P
