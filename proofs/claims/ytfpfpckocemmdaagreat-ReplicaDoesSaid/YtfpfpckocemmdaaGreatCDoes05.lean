/- Part 5 of the walk. -/
import Derived.Test.YtfpfpckocemmdaaGreatCDoes04
import Derived.Shelf.Sort.Plain
import Derived.Sort.OwnSortedInts
import Derived.Test.YtfpfpckocemmdaaGreatProg
import Derived.Lib.SliceRun
import Derived.Lib.Overlaps
import Derived.Lib.AppendZerosOnto
import Derived.Laws.CopyRow
import Derived.Laws.CopyOwn
import Derived.Laws.Externs
import Derived.Deep.RegionLaw
import Derived.Maps.OwnSet
import Derived.Maps.Views
set_option linter.unusedVariables false
set_option linter.unusedSimpArgs false
set_option maxHeartbeats 8000000
set_option maxRecDepth 100000
namespace Go.Proofs.YtfpfpckocemmdaaGreat.Shelf
open Go.Shelf Go.Proofs
section
def lays189_ren:Go.Shelf.Ren:=⟨fun | 189=>88 | 125=>95 | 257=>94 | 128=>106 | 129=>107 | 294=>97 | 295=>98 | 296=>99 | 297=>100 | 298=>101 | 299=>102 | 216=>103 | 300=>104 | 301=>105 | 328=>108 | 329=>109 | 330=>110 | 331=>111 | 332=>112 | 215=>113 | 343=>114 | n=>n,fun | 28=>23 | 3=>3 | 46=>107 | 0=>0 | 51=>117 | 53=>119 | 4=>4 | 183=>111 | 182=>110 | 131=>59 | 5=>5 | 9=>9 | 218=>120 | 222=>124 | 228=>126 | 229=>127 | n=>n,fun | n=>n⟩
theorem lays189:Go.Proofs.Lays.n189 Tryz.prog lays189_ren:={
 mixed:=by kernel_rfl
 f125:=Tryz.func95.trans (congrArg some (by kernel_rfl))
 f128:=Tryz.func106.trans (congrArg some (by kernel_rfl))
 f129:=Tryz.func107.trans (congrArg some (by kernel_rfl))
 f189:=Tryz.func88.trans (congrArg some (by kernel_rfl))
 f215:=Tryz.func113.trans (congrArg some (by kernel_rfl))
 f216:=Tryz.func103.trans (congrArg some (by kernel_rfl))
 f257:=Tryz.func94.trans (congrArg some (by kernel_rfl))
 f294:=Tryz.func97.trans (congrArg some (by kernel_rfl))
 f295:=Tryz.func98.trans (congrArg some (by kernel_rfl))
 f296:=Tryz.func99.trans (congrArg some (by kernel_rfl))
 f297:=Tryz.func100.trans (congrArg some (by kernel_rfl))
 f298:=Tryz.func101.trans (congrArg some (by kernel_rfl))
 f299:=Tryz.func102.trans (congrArg some (by kernel_rfl))
 f300:=Tryz.func104.trans (congrArg some (by kernel_rfl))
 f301:=Tryz.func105.trans (congrArg some (by kernel_rfl))
 f328:=Tryz.func108.trans (congrArg some (by kernel_rfl))
 f329:=Tryz.func109.trans (congrArg some (by kernel_rfl))
 f330:=Tryz.func110.trans (congrArg some (by kernel_rfl))
 f331:=Tryz.func111.trans (congrArg some (by kernel_rfl))
 f332:=Tryz.func112.trans (congrArg some (by kernel_rfl))
 f343:=Tryz.func114.trans (congrArg some (by kernel_rfl))
 t0:=Tryz.underlying0
 a0:=Tryz.isAgg0
 z0:=Tryz.sizeOf0
 v0:=Tryz.zeroValue0
 t3:=Tryz.underlying3
 a3:=Tryz.isAgg3
 z3:=Tryz.sizeOf3
 v3:=Tryz.zeroValue3
 t4:=Tryz.underlying4
 a4:=Tryz.isAgg4
 z4:=Tryz.sizeOf4
 v4:=Tryz.zeroValue4
 t5:=Tryz.underlying5
 a5:=Tryz.isAgg5
 z5:=Tryz.sizeOf5
 v5:=Tryz.zeroValue5
 t9:=Tryz.underlying9
 a9:=Tryz.isAgg9
 z9:=Tryz.sizeOf9
 v9:=Tryz.zeroValue9
 t28:=Tryz.underlying23
 a28:=Tryz.isAgg23
 z28:=Tryz.sizeOf23
 v28:=Tryz.zeroValue23
 t46:=Tryz.underlying107
 a46:=Tryz.isAgg107
 z46:=Tryz.sizeOf107
 v46:=Tryz.zeroValue107
 t51:=Tryz.underlying117
 a51:=Tryz.isAgg117
 z51:=Tryz.sizeOf117
 v51:=Tryz.zeroValue117
 t53:=Tryz.underlying119
 a53:=Tryz.isAgg119
 z53:=Tryz.sizeOf119
 v53:=Tryz.zeroValue119
 t131:=Tryz.underlying59
 a131:=Tryz.isAgg59
 z131:=Tryz.sizeOf59
 v131:=Tryz.zeroValue59
 t182:=Tryz.underlying110
 a182:=Tryz.isAgg110
 z182:=Tryz.sizeOf110
 v182:=Tryz.zeroValue110
 t183:=Tryz.underlying111
 a183:=Tryz.isAgg111
 z183:=Tryz.sizeOf111
 v183:=Tryz.zeroValue111
 t218:=Tryz.underlying120
 a218:=Tryz.isAgg120
 z218:=Tryz.sizeOf120
 v218:=Tryz.zeroValue120
 t222:=Tryz.underlying124
 a222:=Tryz.isAgg124
 z222:=Tryz.sizeOf124
 v222:=Tryz.zeroValue124
 t228:=Tryz.underlying126
 a228:=Tryz.isAgg126
 z228:=Tryz.sizeOf126
 v228:=Tryz.zeroValue126
 t229:=Tryz.underlying127
 a229:=Tryz.isAgg127
 z229:=Tryz.sizeOf127
 v229:=Tryz.zeroValue127 }
open Go.Sort Go.RowKit in
theorem slices_Sort_int (blk off cap:Nat) (zs:List Int) (w:World) (hH:Holds (Value.int .i64) w blk off zs.toArray) (hblk:blk < w.heap.size) (hsz:zs.length < 4611686018427387904) :
  Calls Tryz.prog 88 #[.slice (some ⟨blk,off,none⟩) zs.length cap] w fun e w' =>
   e=.returned (.tuple #[])∧∃ n os,w'=grow (putRow (Value.int .i64) (Sort.ahead w n) blk off (zs.mergeSort fun x y=>decide (x≤y)).toArray) os:=Any.slices_Sort_int lays189 blk off cap zs w hH hblk hsz
end
end Go.Proofs.YtfpfpckocemmdaaGreat.Shelf
namespace Go.Proofs.YtfpfpckocemmdaaGreatW.PrintMore
open Go.RowKit Go.Proofs.YtfpfpckocemmdaaGreatW.PrintWords Go.Proofs.YtfpfpckocemmdaaGreatW.PrintLast
section
variable {P:Program}
theorem x_eql_nil (t e:TypeId) (h:P.underlying t=some (.slice e)) (a:Option Addr) (n c:Nat):∀ w:World,(binOp .eql t (.slice a n c) (.slice none 0 0)).run P w=.ok (.bool a.isNone) w :=
 fun w=>Lib.run_eql_slice_nil w t e a n c 0 0 h
theorem Kd.R_empty {α:Type} (d:Kd α) (e:Nat) (W:World) (base:Nat) (ok:Nat→Prop) (hb:base≤W.heap.size) (hok:ok W.heap.size):d.R e (W.alloc (.cells #[] e)) base ok (.slice (some ⟨W.heap.size,0,none⟩) 0 0) []:=by
 refine ⟨fun k hk=>?_,[],?_,Reps.none _ _⟩
 ·have:W.heap.size=k:=by simpa [Value.ownBlock] using hk
  subst this
  exact hok
 ·have h2:=World.ownsRow_lit (base:=base) (e:=e) (size:=d.sz) W #[] 0 hb (by simp [maxLen]) (by simp)
  simpa using h2
theorem x_row_of_cells {α:Type} (d:Kd α) (e:Nat) (W:World) (base:Nat) (ok:Nat→Prop) (g cap:Nat) (cur:Array Value) (xs:List α) (inner:List Value) (hb:base≤g) (hh:W.heap[g]?=some (.cells cur e (0,0))) (hn:xs.length≤cap) (hc:cap≤maxLen)
  (hs:cur.size=cap * d.sz) (ht:cur.toList.take (xs.length * d.sz)=inner) (hr:Reps (d.M W base (fun k=>ok k∧some k≠(Value.slice (some ⟨g,0,none⟩) xs.length cap).ownBlock)) d.sz xs inner) (hok:ok g):d.R e W base ok (.slice (some ⟨g,0,none⟩) xs.length cap) xs:=by
 refine ⟨fun k hk=>?_,inner,⟨hr.1,.inr ⟨g,cap,cur,rfl,hb,hh,hn,hc,hs,ht⟩⟩,hr⟩
 have:g=k:=by simpa [Value.ownBlock] using hk
 rw [← this];exact hok
theorem x_R_scalar {α:Type} (enc:α→Value) (h1:∀ x,(enc x).oneCell'=true) (e:Nat) (W:World) (base:Nat) (ok:Nat→Prop) (g:Nat) (xs:List α) (hb:base≤g) (hh:W.heap[g]?=some (.cells (xs.map enc).toArray e (0,0))) (hc:xs.length≤maxLen) (hok:ok g) :
  (Kd.scalar enc h1).R e W base ok (.slice (some ⟨g,0,none⟩) xs.length xs.length) xs:=by
 refine x_row_of_cells (Kd.scalar enc h1) e W base ok g xs.length (xs.map enc).toArray xs (xs.map enc) hb hh (Nat.le_refl _) hc (by simp [Kd.scalar]) (by simp only [Kd.scalar,Nat.mul_one];exact List.take_of_length_le (by simp)) ⟨by simp [Kd.scalar],fun j p hj=>?_⟩ hok
 show _=[enc p]
 obtain ⟨hl,rfl⟩:=List.getElem?_eq_some_iff.1 hj
 simp only [Kd.scalar,Nat.mul_one]
 rw [List.drop_eq_getElem_cons (by simpa using hl)]
 simp
theorem x_copy_fresh {α:Type} (enc:α→Value) (d:α) (h1:∀ x,(enc x).oneCell'=true) (W:World) (dT sT ty elem e:TypeId) (hu:P.underlying dT=some (.slice elem)) (hs:(P.info? elem).map (·.size)=some 1)
  (A:Option Addr) (n c:Nat) (mc:Array Value) (hmc:mc.size=n) (xs:List α) (hr:(Kd.scalar enc h1).C (W.alloc (.cells mc e)) A n xs) :
  (Builtin.copy_ #[dT,sT] ty #[.slice (some ⟨W.heap.size,0,none⟩) n n,.slice A n c]).run P (W.alloc (.cells mc e))=.ok (goInt n) (W.alloc (.cells (xs.map enc).toArray e)):=by
 have hr':=Kd.reads_of_C (d:=d) hr
 rcases Nat.eq_zero_or_pos n with h0 | h0
 ·subst h0
  have hx:xs=[]:=List.eq_nil_of_length_eq_zero hr'.1
  have hm:mc=#[]:=Array.eq_empty_of_size_eq_zero hmc
  subst hx;subst hm
  rw [run_copy_none (P:=P) _ dT sT ty elem _ _ 0 0 0 c hu hs (by simp)]
  rfl
 ·obtain ⟨ad,rfl,hc⟩:=hr'.2.2 h0
  have hg:(W.alloc (.cells mc e)).heap[W.heap.size]?=some (.cells mc e (0,0)):=by show (W.heap.push _)[W.heap.size]?=_;simp
  have h:=run_copy_row (P:=P) (W.alloc (.cells mc e)) dT sT ty elem W.heap.size 0 n n ad n c mc e (xs.map enc) hu hs hg (by simp [hr'.1]) (fun j v hj=>by
   rw [List.getElem?_map] at hj
   cases hq:xs[j]? with
   | none=>rw [hq] at hj;cases hj
   | some y =>
    rw [hq] at hj
    obtain ⟨hl,hy⟩:=List.getElem?_eq_some_iff.1 hq
    have h2:=hc j (by have:=hr'.1;omega)
    rw [List.getD_eq_getElem?_getD,hq] at h2
    simp only [Option.map_some,Option.some.injEq] at hj
    rw [← hj]
    exact h2) (by simp [hr'.1];omega) (fun v hv=>by
   obtain ⟨x,_,rfl⟩:=List.mem_map.1 hv
   exact h1 x)
  rw [h]
  have hl:(xs.map enc).length=n:=by simp [hr'.1]
  have hd:mc.toList.drop (0+(xs.map enc).length)=[]:=by rw [List.drop_eq_nil_iff];simp [hr'.1,hmc]
  rw [hd,hl]
  have hq:(W.alloc (.cells mc e)).setRow W.heap.size (xs.map enc).toArray=W.alloc (.cells (xs.map enc).toArray e):=by
   show ({ W with heap:=_ } : World)={ W with heap:=_ }
   congr 1
   show (W.heap.push _).modify W.heap.size _=W.heap.push _
   apply Array.ext_getElem?
   intro i
   rw [Array.getElem?_modify]
   simp only [Array.getElem?_push]
   by_cases hi:W.heap.size=i
   ·subst hi;simp
   ·have hi2:¬ i=W.heap.size:=fun h=>hi h.symm
    simp [hi,hi2]
  simpa using congrArg (fun w'=>Result.ok (goInt n) w') hq
theorem x_alloc_new (w:World) (o:Obj):(w.alloc o).heap[w.heap.size]?=some o:=by
 show (w.heap.push o)[w.heap.size]?=some o
 simp
instance:Coe Int Value:=⟨fun n=>.int .i64 n⟩
instance:Coe Bool Value:=⟨fun b=>.bool b⟩
theorem sd {p:Prop} (h:p):Aside0 p:=Aside0.mk h
theorem cells9 {W:World} {g t:Nat} {a0 a1 a2 a3 a4 a5 a6 a7 a8:Value} (h:W.heap[g]?=some (.cells #[a0,a1,a2,a3,a4,a5,a6,a7,a8] t (0,0))):W.cell? ⟨g,0,none⟩=some a0∧W.cell? ⟨g,1,none⟩=some a1∧W.cell? ⟨g,2,none⟩=some a2∧W.cell? ⟨g,3,none⟩=some a3∧W.cell? ⟨g,4,none⟩=some a4∧W.cell? ⟨g,5,none⟩=some a5∧W.cell? ⟨g,6,none⟩=some a6∧W.cell? ⟨g,7,none⟩=some a7∧W.cell? ⟨g,8,none⟩=some a8 :=
 ⟨blk_cell h 0,blk_cell h 1,blk_cell h 2,blk_cell h 3,blk_cell h 4,blk_cell h 5,blk_cell h 6,blk_cell h 7,blk_cell h 8⟩
theorem cells8 {W:World} {g t:Nat} {a0 a1 a2 a3 a4 a5 a6 a7:Value} (h:W.heap[g]?=some (.cells #[a0,a1,a2,a3,a4,a5,a6,a7] t (0,0))):W.cell? ⟨g,0,none⟩=some a0∧W.cell? ⟨g,1,none⟩=some a1∧W.cell? ⟨g,2,none⟩=some a2∧W.cell? ⟨g,3,none⟩=some a3∧W.cell? ⟨g,4,none⟩=some a4∧W.cell? ⟨g,5,none⟩=some a5∧W.cell? ⟨g,6,none⟩=some a6∧W.cell? ⟨g,7,none⟩=some a7 :=
 ⟨blk_cell h 0,blk_cell h 1,blk_cell h 2,blk_cell h 3,blk_cell h 4,blk_cell h 5,blk_cell h 6,blk_cell h 7⟩
theorem cells4 {W:World} {g t:Nat} {a0 a1 a2 a3:Value} (h:W.heap[g]?=some (.cells #[a0,a1,a2,a3] t (0,0))):W.cell? ⟨g,0,none⟩=some a0∧W.cell? ⟨g,1,none⟩=some a1∧W.cell? ⟨g,2,none⟩=some a2∧W.cell? ⟨g,3,none⟩=some a3 :=
 ⟨blk_cell h 0,blk_cell h 1,blk_cell h 2,blk_cell h 3⟩
theorem fr_of {W:World} {g t:Nat} {cs:Array Value} (h:W.heap[g]?=some (.cells cs t (0,0))) (j:Nat):W.frozen? ⟨g,j,none⟩=false:=blk_frozen h j
end
end Go.Proofs.YtfpfpckocemmdaaGreatW.PrintMore
namespace Go.Proofs.YtfpfpckocemmdaaGreat.P
open Go.RowKit Go.Proofs.YtfpfpckocemmdaaGreatW.PrintWords Go.Proofs.YtfpfpckocemmdaaGreatW.PrintLast Go.Proofs.YtfpfpckocemmdaaGreatW.PrintMore
section
attribute [local go_sem] max2_int min2_int max_two min_two max_three min_three max_four min_four   -- for this text's walks alone
def errW:Option Int→Value
 | none=>.nilIface
 | some c=>.iface 0 (.int .i64 c)
theorem errW_none:errW none=.nilIface:=rfl
theorem errW_some (c:Int):errW (some c)=.iface 0 c:=rfl
theorem info3:(Tryz.prog.info? 3).map (fun i=>(i.zero,i.size,i.bytes))=some (some (.int .i64 0),1,8):=by kernel_rfl
theorem info9:(Tryz.prog.info? 9).map (fun i=>(i.zero,i.size,i.bytes))=some (some (.string ⟨#[]⟩),1,16):=by kernel_rfl
theorem info28:(Tryz.prog.info? 28).map (fun i=>(i.zero,i.size,i.bytes))=some (some (.agg #[(.int .i64 0),(.int .i64 0),(.int .i64 0),(.int .i64 0),(.int .i64 0),(.int .i64 0),(.int .i64 0),(.slice none 0 0)]),8,80):=by kernel_rfl
theorem info63:(Tryz.prog.info? 63).map (fun i=>(i.zero,i.size,i.bytes))=some (some (.agg #[(.int .i64 0),(.int .i64 0),(.int .i64 0),(.slice none 0 0)]),4,48):=by kernel_rfl
structure S63 where
 f0:Int
 f1:Int
 f2:Int
 f3:(List ByteArray)
def z63:S63:=⟨(0:Int),(0:Int),(0:Int),([]:List ByteArray)⟩
def k63:Kd S63:=Kd.iso (Kd.pair (Kd.int .i64) (Kd.pair (Kd.int .i64) (Kd.pair (Kd.int .i64) (Kd.slice 9 Kd.string)))) (fun x:S63=>(x.f0,x.f1,x.f2,x.f3))
theorem k63_heap:Kd.Heap k63:=Kd.heap_iso _ (Kd.heap_pair (Kd.heap_int .i64) (Kd.heap_pair (Kd.heap_int .i64) (Kd.heap_pair (Kd.heap_int .i64) (Kd.heap_slice 9 Kd.heap_string))))
theorem k63_open {w:World} {x:S63} {cs:List Value} (h:k63.K w x cs):∃ A3 c3,cs=[.int .i64 x.f0,.int .i64 x.f1,.int .i64 x.f2,.slice A3 x.f3.length c3]∧x.f3.length≤c3∧Kd.string.C w A3 x.f3.length x.f3:=by
 obtain ⟨_,_,rfl,rfl,⟨_,_,rfl,rfl,⟨_,_,rfl,rfl,⟨A3,c3,rfl,l3,g3⟩⟩⟩⟩:=h
 exact ⟨A3,c3,rfl,l3,g3⟩
theorem k63_mk (w:World) (x:S63) {A3:Option Addr} {c3:Nat} (l3:x.f3.length≤c3) (g3:Kd.string.C w A3 x.f3.length x.f3):k63.K w x [.int .i64 x.f0,.int .i64 x.f1,.int .i64 x.f2,.slice A3 x.f3.length c3]:=⟨[.int .i64 x.f0],[.int .i64 x.f1,.int .i64 x.f2,.slice A3 x.f3.length c3],rfl,rfl,⟨[.int .i64 x.f1],[.int .i64 x.f2,.slice A3 x.f3.length c3],rfl,rfl,⟨[.int .i64 x.f2],[.slice A3 x.f3.length c3],rfl,rfl,⟨A3,c3,rfl,l3,g3⟩⟩⟩⟩
theorem k63_mkM (w:World) (base:Nat) (ok:Nat→Prop) (x:S63) {v3:Value} (g3:Kd.string.R 9 w base ok v3 x.f3):k63.M w base ok x [.int .i64 x.f0,.int .i64 x.f1,.int .i64 x.f2,v3]:=⟨[.int .i64 x.f0],[.int .i64 x.f1,.int .i64 x.f2,v3],rfl,rfl,⟨[.int .i64 x.f1],[.int .i64 x.f2,v3],rfl,rfl,⟨[.int .i64 x.f2],[v3],rfl,rfl,⟨v3,rfl,g3⟩⟩⟩⟩
theorem k63_mkF (W:World) (ok:Nat→Prop) (x:S63) {A3:Option Addr} {c3:Nat} (l3:x.f3.length≤c3) (g3:Kd.F Kd.string W ok A3 x.f3.length x.f3):Kd.FK k63 W ok x [.int .i64 x.f0,.int .i64 x.f1,.int .i64 x.f2,.slice A3 x.f3.length c3]:=fun W2 hW=>k63_mk W2 x l3 (g3 W2 hW)
def rd_T63 (xs:List S63) (i:Int):S63:=xs.getD i.toNat z63
theorem at_T63 {w:World} {A:Option Addr} {n:Nat} {xs:List S63} (h:Kd.C k63 w A n xs) (i:Int) (h0:0≤i) (h1:i < n):∃ ad A3 c3,A=some ad∧w.cell? (ad.add (i.toNat * 4))=some (.int .i64 (rd_T63 xs i).f0)∧w.cell? ⟨(ad.add (i.toNat * 4)).block,(ad.add (i.toNat * 4)).off+1,none⟩=some (.int .i64 (rd_T63 xs i).f1)∧w.cell? ⟨(ad.add (i.toNat * 4)).block,(ad.add (i.toNat * 4)).off+2,none⟩=some (.int .i64 (rd_T63 xs i).f2)∧w.cell? ⟨(ad.add (i.toNat * 4)).block,(ad.add (i.toNat * 4)).off+3,none⟩=some (.slice A3 (rd_T63 xs i).f3.length c3)∧(rd_T63 xs i).f3.length≤c3∧Kd.string.C w A3 (rd_T63 xs i).f3.length (rd_T63 xs i).f3:=by
 obtain ⟨ad,c,e,_,hK,hc0⟩:=Kd.C_get h z63 i h0 h1
 have hc:∀ j u,c[j]?=some u→w.cell? (ad.add (i.toNat * 4+j))=some u:=hc0
 obtain ⟨A3,c3,rfl,l3,g3⟩:=k63_open hK
 exact ⟨ad,A3,c3,e,hc 0 _ rfl,by rw [← add_field _ _ 1 (by omega)];exact hc 1 _ rfl,by rw [← add_field _ _ 2 (by omega)];exact hc 2 _ rfl,by rw [← add_field _ _ 3 (by omega)];exact hc 3 _ rfl,l3,g3⟩
structure S26 where
 f0:Int
 f1:Int
 f2:Int
 f3:Int
 f4:Bool
 f5:Int
 f6:(List ByteArray)
 f7:(List Int)
 f8:(List S63)
def k26:Kd S26:=Kd.iso (Kd.pair (Kd.int .i64) (Kd.pair (Kd.int .i64) (Kd.pair (Kd.int .i64) (Kd.pair (Kd.int .i64) (Kd.pair Kd.bool (Kd.pair (Kd.int .i64) (Kd.pair (Kd.slice 9 Kd.string) (Kd.pair (Kd.slice 3 (Kd.int .i64)) (Kd.slice 63 k63))))))))) (fun x:S26=>(x.f0,x.f1,x.f2,x.f3,x.f4,x.f5,x.f6,x.f7,x.f8))
theorem k26_open {w:World} {x:S26} {cs:List Value} (h:k26.K w x cs):∃ A6 c6 A7 c7 A8 c8,cs=[.int .i64 x.f0,.int .i64 x.f1,.int .i64 x.f2,.int .i64 x.f3,.bool x.f4,.int .i64 x.f5,.slice A6 x.f6.length c6,.slice A7 x.f7.length c7,.slice A8 x.f8.length c8]∧x.f6.length≤c6∧Kd.string.C w A6 x.f6.length x.f6∧x.f7.length≤c7∧(Kd.int .i64).C w A7 x.f7.length x.f7∧x.f8.length≤c8∧k63.C w A8 x.f8.length x.f8:=by
 obtain ⟨_,_,rfl,rfl,⟨_,_,rfl,rfl,⟨_,_,rfl,rfl,⟨_,_,rfl,rfl,⟨_,_,rfl,rfl,⟨_,_,rfl,rfl,⟨_,_,rfl,⟨A6,c6,rfl,l6,g6⟩,⟨_,_,rfl,⟨A7,c7,rfl,l7,g7⟩,⟨A8,c8,rfl,l8,g8⟩⟩⟩⟩⟩⟩⟩⟩⟩:=h
 exact ⟨A6,c6,A7,c7,A8,c8,rfl,l6,g6,l7,g7,l8,g8⟩
structure S28 where
 f0:Int
 f1:Int
 f2:Int
 f3:Int
 f4:Int
 f5:Int
 f6:Int
 f7:(List ByteArray)
def z28:S28:=⟨(0:Int),(0:Int),(0:Int),(0:Int),(0:Int),(0:Int),(0:Int),([]:List ByteArray)⟩
def k28:Kd S28:=Kd.iso (Kd.pair (Kd.int .i64) (Kd.pair (Kd.int .i64) (Kd.pair (Kd.int .i64) (Kd.pair (Kd.int .i64) (Kd.pair (Kd.int .i64) (Kd.pair (Kd.int .i64) (Kd.pair (Kd.int .i64) (Kd.slice 9 Kd.string)))))))) (fun x:S28=>(x.f0,x.f1,x.f2,x.f3,x.f4,x.f5,x.f6,x.f7))
theorem k28_open {w:World} {x:S28} {cs:List Value} (h:k28.K w x cs):∃ A7 c7,cs=[.int .i64 x.f0,.int .i64 x.f1,.int .i64 x.f2,.int .i64 x.f3,.int .i64 x.f4,.int .i64 x.f5,.int .i64 x.f6,.slice A7 x.f7.length c7]∧x.f7.length≤c7∧Kd.string.C w A7 x.f7.length x.f7:=by
 obtain ⟨_,_,rfl,rfl,⟨_,_,rfl,rfl,⟨_,_,rfl,rfl,⟨_,_,rfl,rfl,⟨_,_,rfl,rfl,⟨_,_,rfl,rfl,⟨_,_,rfl,rfl,⟨A7,c7,rfl,l7,g7⟩⟩⟩⟩⟩⟩⟩⟩:=h
 exact ⟨A7,c7,rfl,l7,g7⟩
theorem k28_openM {w:World} {base:Nat} {ok:Nat→Prop} {x:S28} {cs:List Value} (h:k28.M w base ok x cs):∃ v7,cs=[.int .i64 x.f0,.int .i64 x.f1,.int .i64 x.f2,.int .i64 x.f3,.int .i64 x.f4,.int .i64 x.f5,.int .i64 x.f6,v7]∧Kd.string.R 9 w base ok v7 x.f7:=by
 obtain ⟨_,_,rfl,rfl,⟨_,_,rfl,rfl,⟨_,_,rfl,rfl,⟨_,_,rfl,rfl,⟨_,_,rfl,rfl,⟨_,_,rfl,rfl,⟨_,_,rfl,rfl,⟨v7,rfl,g7⟩⟩⟩⟩⟩⟩⟩⟩:=h
 exact ⟨v7,rfl,g7⟩
theorem k28_mk (w:World) (x:S28) {A7:Option Addr} {c7:Nat} (l7:x.f7.length≤c7) (g7:Kd.string.C w A7 x.f7.length x.f7):k28.K w x [.int .i64 x.f0,.int .i64 x.f1,.int .i64 x.f2,.int .i64 x.f3,.int .i64 x.f4,.int .i64 x.f5,.int .i64 x.f6,.slice A7 x.f7.length c7]:=⟨[.int .i64 x.f0],[.int .i64 x.f1,.int .i64 x.f2,.int .i64 x.f3,.int .i64 x.f4,.int .i64 x.f5,.int .i64 x.f6,.slice A7 x.f7.length c7],rfl,rfl,⟨[.int .i64 x.f1],[.int .i64 x.f2,.int .i64 x.f3,.int .i64 x.f4,.int .i64 x.f5,.int .i64 x.f6,.slice A7 x.f7.length c7],rfl,rfl,⟨[.int .i64 x.f2],[.int .i64 x.f3,.int .i64 x.f4,.int .i64 x.f5,.int .i64 x.f6,.slice A7 x.f7.length c7],rfl,rfl,⟨[.int .i64 x.f3],[.int .i64 x.f4,.int .i64 x.f5,.int .i64 x.f6,.slice A7 x.f7.length c7],rfl,rfl,⟨[.int .i64 x.f4],[.int .i64 x.f5,.int .i64 x.f6,.slice A7 x.f7.length c7],rfl,rfl,⟨[.int .i64 x.f5],[.int .i64 x.f6,.slice A7 x.f7.length c7],rfl,rfl,⟨[.int .i64 x.f6],[.slice A7 x.f7.length c7],rfl,rfl,⟨A7,c7,rfl,l7,g7⟩⟩⟩⟩⟩⟩⟩⟩
theorem k28_mkM (w:World) (base:Nat) (ok:Nat→Prop) (x:S28) {v7:Value} (g7:Kd.string.R 9 w base ok v7 x.f7):k28.M w base ok x [.int .i64 x.f0,.int .i64 x.f1,.int .i64 x.f2,.int .i64 x.f3,.int .i64 x.f4,.int .i64 x.f5,.int .i64 x.f6,v7]:=⟨[.int .i64 x.f0],[.int .i64 x.f1,.int .i64 x.f2,.int .i64 x.f3,.int .i64 x.f4,.int .i64 x.f5,.int .i64 x.f6,v7],rfl,rfl,⟨[.int .i64 x.f1],[.int .i64 x.f2,.int .i64 x.f3,.int .i64 x.f4,.int .i64 x.f5,.int .i64 x.f6,v7],rfl,rfl,⟨[.int .i64 x.f2],[.int .i64 x.f3,.int .i64 x.f4,.int .i64 x.f5,.int .i64 x.f6,v7],rfl,rfl,⟨[.int .i64 x.f3],[.int .i64 x.f4,.int .i64 x.f5,.int .i64 x.f6,v7],rfl,rfl,⟨[.int .i64 x.f4],[.int .i64 x.f5,.int .i64 x.f6,v7],rfl,rfl,⟨[.int .i64 x.f5],[.int .i64 x.f6,v7],rfl,rfl,⟨[.int .i64 x.f6],[v7],rfl,rfl,⟨v7,rfl,g7⟩⟩⟩⟩⟩⟩⟩⟩
def rd_T28 (xs:List S28) (i:Int):S28:=xs.getD i.toNat z28
theorem at_T28 {w:World} {A:Option Addr} {n:Nat} {xs:List S28} (h:Kd.C k28 w A n xs) (i:Int) (h0:0≤i) (h1:i < n):∃ ad A7 c7,A=some ad∧w.cell? (ad.add (i.toNat * 8))=some (.int .i64 (rd_T28 xs i).f0)∧w.cell? ⟨(ad.add (i.toNat * 8)).block,(ad.add (i.toNat * 8)).off+1,none⟩=some (.int .i64 (rd_T28 xs i).f1)∧w.cell? ⟨(ad.add (i.toNat * 8)).block,(ad.add (i.toNat * 8)).off+2,none⟩=some (.int .i64 (rd_T28 xs i).f2)∧w.cell? ⟨(ad.add (i.toNat * 8)).block,(ad.add (i.toNat * 8)).off+3,none⟩=some (.int .i64 (rd_T28 xs i).f3)∧w.cell? ⟨(ad.add (i.toNat * 8)).block,(ad.add (i.toNat * 8)).off+4,none⟩=some (.int .i64 (rd_T28 xs i).f4)∧w.cell? ⟨(ad.add (i.toNat * 8)).block,(ad.add (i.toNat * 8)).off+5,none⟩=some (.int .i64 (rd_T28 xs i).f5)∧w.cell? ⟨(ad.add (i.toNat * 8)).block,(ad.add (i.toNat * 8)).off+6,none⟩=some (.int .i64 (rd_T28 xs i).f6)∧w.cell? ⟨(ad.add (i.toNat * 8)).block,(ad.add (i.toNat * 8)).off+7,none⟩=some (.slice A7 (rd_T28 xs i).f7.length c7)∧(rd_T28 xs i).f7.length≤c7∧Kd.string.C w A7 (rd_T28 xs i).f7.length (rd_T28 xs i).f7:=by
 obtain ⟨ad,c,e,_,hK,hc0⟩:=Kd.C_get h z28 i h0 h1
 have hc:∀ j u,c[j]?=some u→w.cell? (ad.add (i.toNat * 8+j))=some u:=hc0
 obtain ⟨A7,c7,rfl,l7,g7⟩:=k28_open hK
 exact ⟨ad,A7,c7,e,hc 0 _ rfl,by rw [← add_field _ _ 1 (by omega)];exact hc 1 _ rfl,by rw [← add_field _ _ 2 (by omega)];exact hc 2 _ rfl,by rw [← add_field _ _ 3 (by omega)];exact hc 3 _ rfl,by rw [← add_field _ _ 4 (by omega)];exact hc 4 _ rfl,by rw [← add_field _ _ 5 (by omega)];exact hc 5 _ rfl,by rw [← add_field _ _ 6 (by omega)];exact hc 6 _ rfl,by rw [← add_field _ _ 7 (by omega)];exact hc 7 _ rfl,l7,g7⟩
end
end Go.Proofs.YtfpfpckocemmdaaGreat.P
