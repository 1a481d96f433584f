/- Part 52 of the walk. -/
import Derived.Test.YtfpfpckocemmdaaGreatCDoes51
import Derived.ProofKit
import Derived.OpenShut
import Derived.ShutString
import Derived.ChangeOld
import Derived.SizedLaws
import Derived.Deep.Slices
import Derived.ChangeArms
set_option linter.unusedVariables false
set_option linter.unusedSimpArgs false
set_option maxHeartbeats 8000000
set_option maxRecDepth 100000
namespace Go.Proofs.YtfpfpckocemmdaaGreatW.PrintMore
open Go.RowKit Go.Proofs.YtfpfpckocemmdaaGreatW.PrintWords Go.Proofs.YtfpfpckocemmdaaGreatW.PrintLast Go.ChangeShapes Go.WideShapes Go.ChangeAt
section
variable {P:Program} {α:Type}
def Opens (P:Program) (t:TypeId) (d:Kd α) (B:α→Prop):Prop :=
 ∀ {H:Type} (enc:TypeId×Value→H) (w:World) (base:Nat) (spare:Nat→Bool) (held:Bool) (fuel:Nat) (cs:List Value) (x:DataW H×List MemPlace),
  DataW.trod enc P w base spare held fuel t cs=some x→∃ y:α,d.K w y cs∧B y
theorem Opens.int {t:TypeId} {k:IntKind} (ht:P.underlying t=some (.int k)):Opens P t (Kd.int k) (fun y=>(Lit.int k y).wf=true):=by
 intro H enc w base spare held fuel cs x h
 obtain ⟨n,rfl,_,hw⟩:=DataW.trod_int ht h
 exact ⟨n,rfl,hw⟩
theorem Opens.bool {t:TypeId} (ht:P.underlying t=some .bool):Opens P t Kd.bool (fun _=>True):=by
 intro H enc w base spare held fuel cs x h
 obtain ⟨n,rfl,_⟩:=DataW.trod_bool ht h
 exact ⟨n,rfl,trivial⟩
theorem Opens.string {t:TypeId} (ht:P.underlying t=some .string):Opens P t Kd.string (fun s=>s.size≤maxLen):=by
 intro H enc w base spare held fuel cs x h
 obtain ⟨n,rfl,_,hs⟩:=DataW.trod_string ht h
 exact ⟨n,rfl,hs⟩
theorem Opens.slice {t e:TypeId} {d:Kd α} {B:α→Prop} (hd:Opens P e d B) (ht:P.underlying t=some (.slice e)) (hc:P.cellsOf e=d.sz):Opens P t (Kd.slice e d) (fun xs=>∀ y∈xs,B y):=by
 intro H enc w base spare held fuel cs x h
 rcases Go.Deep.open_slice ht h with ⟨rfl,_⟩ | ⟨a,len,cap,m,n,D,Pl,rfl,hb,hl,hm,hmm,_,hx⟩
 ·exact ⟨[],⟨none,0,rfl,Nat.le_refl _,Kd.C_nil d w⟩,by simp⟩
 ·have hlm:len≤m:=by rw [hmm];split<;>omega
  have hy:∀ i:Fin len,∃ y:α,∃ cs',w.cells? base (a.add (i.1 * P.cellsOf e)) (P.cellsOf e)=some cs'∧d.K w y cs'∧B y:=fun i=>by
   obtain ⟨cs',h1,h2⟩:=hx i.1 (by omega)
   obtain ⟨y,hK,hB⟩:=hd enc w base spare held n cs' _ h2
   exact ⟨y,cs',h1,hK,hB⟩
  refine ⟨List.ofFn fun i=>Classical.choose (hy i),⟨some a,cap,by simp,by simpa using hl,by simp,by simp only [List.length_ofFn];unfold maxLen at hm;omega,fun _=>⟨a,rfl,fun j p hj=>?_⟩⟩,fun y hy'=>?_⟩
  ·obtain ⟨hjl,hp⟩:=List.getElem?_eq_some_iff.1 hj
   have hjl':j < len:=by simpa using hjl
   obtain ⟨cs',h1,hK,_⟩:=Classical.choose_spec (hy ⟨j,hjl'⟩)
   have hp':Classical.choose (hy ⟨j,hjl'⟩)=p:=by rw [← hp];simp
   rw [hp'] at hK
   obtain ⟨_,hlen,hcell⟩:=World.cells?_some h1
   refine ⟨cs',by rw [hlen,hc],hK,fun i u hu=>?_⟩
   have hi:i < cs'.length:=(List.getElem?_eq_some_iff.1 hu).1
   have h3:=hcell i (by omega)
   rw [Go.Deep.add_add,hc] at h3
   rw [h3,hu]
  ·obtain ⟨i,hi⟩:=(List.mem_ofFn).1 hy'
   obtain ⟨cs',h1,_,hB⟩:=Classical.choose_spec (hy i)
   rw [← hi]
   exact hB
theorem Opens.sized {t e:TypeId} {d:Kd α} {B:List α→Prop} (hd:Opens P t (Kd.slice e d) B):Opens P t (Kd.slice e d) (fun xs=>xs.length≤9223372036854775807∧B xs):=by
 intro H enc w base spare held fuel cs x h
 obtain ⟨xs,hK,hB⟩:=hd enc w base spare held fuel cs x h
 obtain ⟨A,c,hcs,hl,hC⟩:=hK
 exact ⟨xs,⟨A,c,hcs,hl,hC⟩,hC.2.1,hB⟩
theorem Opens.arg_struct {H:Type} {enc:TypeId×Value→H} {t:TypeId} {fs:Array Field} {d:Kd α} {B:α→Prop} (hd:Opens P t d B) (ht:P.underlying t=some (.struct fs)) {w:World} {base b0:Nat} {r:Reach} {spare:Nat→Bool} {held:Bool} {v:Value} {y:DataW H} {ps:List MemPlace}
  (hv:Value.okWide P w r b0 t v) (h:DataW.Trod enc P w base spare held t v y ps):∃ cs x,v=.agg (List.toArray cs)∧d.K w x cs∧B x:=by
 obtain ⟨cs,rfl,hsz⟩:=okWide_struct ht hv
 obtain ⟨fuel,hf⟩:=h
 obtain ⟨x,hK,hB⟩:=hd enc w base spare held fuel _ _ hf
 refine ⟨cs.toList,x,by simp,?_,hB⟩
 simpa [Value.cells] using hK
theorem x_field {H:Type} {enc:TypeId×Value→H} {w:World} {base:Nat} {spare:Nat→Bool} {held:Bool} {n:Nat} {fs:Array Field} {xs:List (DataW H×List MemPlace)} {cs:List Value} (hx:xs.length=fs.size)
  (hf:∀ (i:Nat) (f:Field),fs[i]?=some f→DataW.trod enc P w base spare held n f.type ((cs.drop f.offset).take (P.cellsOf f.type))=xs[i]?) (i:Nat) (f:Field) (h:fs[i]?=some f) :
  ∃ x,DataW.trod enc P w base spare held n f.type ((cs.drop f.offset).take (P.cellsOf f.type))=some x:=by
 have hi:i < xs.length:=by
  rw [hx]
  rcases Nat.lt_or_ge i fs.size with h' | h'
  ·exact h'
  ·rw [Array.getElem?_eq_none h'] at h;cases h
 exact ⟨xs[i],(hf i f h).trans (List.getElem?_eq_getElem hi)⟩
theorem Opens.field {H:Type} {t:TypeId} {d:Kd α} {B:α→Prop} (hd:Opens P t d B) {enc:TypeId×Value→H} {w:World} {base:Nat} {spare:Nat→Bool} {held:Bool} {n:Nat} {cs:List Value} {x:DataW H×List MemPlace} (h:DataW.trod enc P w base spare held n t cs=some x):∃ y,d.K w y cs∧B y:=hd enc w base spare held n cs x h
end
end Go.Proofs.YtfpfpckocemmdaaGreatW.PrintMore
namespace Go.Proofs.YtfpfpckocemmdaaGreat.P
open Go.RowKit Go.Proofs.YtfpfpckocemmdaaGreatW.PrintWords Go.Proofs.YtfpfpckocemmdaaGreatW.PrintLast Go.Proofs.YtfpfpckocemmdaaGreatW.PrintMore
set_option maxRecDepth 100000
theorem opens3:Opens Tryz.prog 3 (Kd.int .i64) (fun y=>(Lit.int .i64 y).wf=true):=Opens.int Tryz.underlying3
theorem opens4:Opens Tryz.prog 4 Kd.bool (fun _=>True):=Opens.bool Tryz.underlying4
theorem opens9:Opens Tryz.prog 9 Kd.string (fun s=>s.size≤maxLen):=Opens.string Tryz.underlying9
theorem opens22:Opens Tryz.prog 22 (Kd.slice 9 Kd.string) (fun y=>(y.length≤9223372036854775807∧∀ y1∈y,y1.size≤maxLen)):=Opens.sized (Opens.slice opens9 Tryz.underlying22 rfl)
theorem opens23:Opens Tryz.prog 23 (Kd.slice 3 (Kd.int .i64)) (fun y=>(y.length≤9223372036854775807∧∀ y1∈y,(Lit.int .i64 y1).wf=true)):=Opens.sized (Opens.slice opens3 Tryz.underlying23 rfl)
def B63 (x:S63):Prop:=(Lit.int .i64 x.f0).wf=true∧(Lit.int .i64 x.f1).wf=true∧(Lit.int .i64 x.f2).wf=true∧(x.f3.length≤9223372036854775807∧∀ y0∈x.f3,y0.size≤maxLen)
theorem opens63:Opens Tryz.prog 63 k63 B63:=by
 intro H enc w base spare held fuel cs x h
 obtain ⟨xs,n,_,_,hl,hxs,hf⟩:=DataW.trod_struct Tryz.underlying63 h
 have hl:cs.length=4:=hl
 obtain ⟨_,h0⟩:=x_field hxs hf 0 _ rfl
 obtain ⟨_,h1⟩:=x_field hxs hf 1 _ rfl
 obtain ⟨_,h2⟩:=x_field hxs hf 2 _ rfl
 obtain ⟨_,h3⟩:=x_field hxs hf 3 _ rfl
 obtain ⟨y0,k0,b0⟩:=opens3.field h0
 obtain ⟨y1,k1,b1⟩:=opens3.field h1
 obtain ⟨y2,k2,b2⟩:=opens3.field h2
 obtain ⟨y3,k3,b3⟩:=opens22.field h3
 refine ⟨⟨y0,y1,y2,y3⟩,⟨_,_,?_,k0,⟨_,_,rfl,k1,⟨_,_,rfl,k2,k3⟩⟩⟩,b0,b1,b2,b3⟩
 show cs=(cs.drop 0).take 1++((cs.drop 1).take 1++((cs.drop 2).take 1++((cs.drop 3).take 1)))
 match cs,hl with
 | [c0,c1,c2,c3],_=>rfl
theorem opens24:Opens Tryz.prog 24 (Kd.slice 63 k63) (fun y=>(y.length≤9223372036854775807∧∀ y1∈y,B63 y1)):=Opens.sized (Opens.slice opens63 Tryz.underlying24 rfl)
def B26 (x:S26):Prop:=(Lit.int .i64 x.f0).wf=true∧(Lit.int .i64 x.f1).wf=true∧(Lit.int .i64 x.f2).wf=true∧(Lit.int .i64 x.f3).wf=true∧True∧(Lit.int .i64 x.f5).wf=true∧(x.f6.length≤9223372036854775807∧∀ y0∈x.f6,y0.size≤maxLen)∧(x.f7.length≤9223372036854775807∧∀ y0∈x.f7,(Lit.int .i64 y0).wf=true)∧(x.f8.length≤9223372036854775807∧∀ y0∈x.f8,B63 y0)
theorem opens26:Opens Tryz.prog 26 k26 B26:=by
 intro H enc w base spare held fuel cs x h
 obtain ⟨xs,n,_,_,hl,hxs,hf⟩:=DataW.trod_struct Tryz.underlying26 h
 have hl:cs.length=9:=hl
 obtain ⟨_,h0⟩:=x_field hxs hf 0 _ rfl
 obtain ⟨_,h1⟩:=x_field hxs hf 1 _ rfl
 obtain ⟨_,h2⟩:=x_field hxs hf 2 _ rfl
 obtain ⟨_,h3⟩:=x_field hxs hf 3 _ rfl
 obtain ⟨_,h4⟩:=x_field hxs hf 4 _ rfl
 obtain ⟨_,h5⟩:=x_field hxs hf 5 _ rfl
 obtain ⟨_,h6⟩:=x_field hxs hf 6 _ rfl
 obtain ⟨_,h7⟩:=x_field hxs hf 7 _ rfl
 obtain ⟨_,h8⟩:=x_field hxs hf 8 _ rfl
 obtain ⟨y0,k0,b0⟩:=opens3.field h0
 obtain ⟨y1,k1,b1⟩:=opens3.field h1
 obtain ⟨y2,k2,b2⟩:=opens3.field h2
 obtain ⟨y3,k3,b3⟩:=opens3.field h3
 obtain ⟨y4,k4,b4⟩:=opens4.field h4
 obtain ⟨y5,k5,b5⟩:=opens3.field h5
 obtain ⟨y6,k6,b6⟩:=opens22.field h6
 obtain ⟨y7,k7,b7⟩:=opens23.field h7
 obtain ⟨y8,k8,b8⟩:=opens24.field h8
 refine ⟨⟨y0,y1,y2,y3,y4,y5,y6,y7,y8⟩,⟨_,_,?_,k0,⟨_,_,rfl,k1,⟨_,_,rfl,k2,⟨_,_,rfl,k3,⟨_,_,rfl,k4,⟨_,_,rfl,k5,⟨_,_,rfl,k6,⟨_,_,rfl,k7,k8⟩⟩⟩⟩⟩⟩⟩⟩,b0,b1,b2,b3,b4,b5,b6,b7,b8⟩
 show cs=(cs.drop 0).take 1++((cs.drop 1).take 1++((cs.drop 2).take 1++((cs.drop 3).take 1++((cs.drop 4).take 1++((cs.drop 5).take 1++((cs.drop 6).take 1++((cs.drop 7).take 1++((cs.drop 8).take 1))))))))
 match cs,hl with
 | [c0,c1,c2,c3,c4,c5,c6,c7,c8],_=>rfl
def B28 (x:S28):Prop:=(Lit.int .i64 x.f0).wf=true∧(Lit.int .i64 x.f1).wf=true∧(Lit.int .i64 x.f2).wf=true∧(Lit.int .i64 x.f3).wf=true∧(Lit.int .i64 x.f4).wf=true∧(Lit.int .i64 x.f5).wf=true∧(Lit.int .i64 x.f6).wf=true∧(x.f7.length≤9223372036854775807∧∀ y0∈x.f7,y0.size≤maxLen)
theorem opens28:Opens Tryz.prog 28 k28 B28:=by
 intro H enc w base spare held fuel cs x h
 obtain ⟨xs,n,_,_,hl,hxs,hf⟩:=DataW.trod_struct Tryz.underlying28 h
 have hl:cs.length=8:=hl
 obtain ⟨_,h0⟩:=x_field hxs hf 0 _ rfl
 obtain ⟨_,h1⟩:=x_field hxs hf 1 _ rfl
 obtain ⟨_,h2⟩:=x_field hxs hf 2 _ rfl
 obtain ⟨_,h3⟩:=x_field hxs hf 3 _ rfl
 obtain ⟨_,h4⟩:=x_field hxs hf 4 _ rfl
 obtain ⟨_,h5⟩:=x_field hxs hf 5 _ rfl
 obtain ⟨_,h6⟩:=x_field hxs hf 6 _ rfl
 obtain ⟨_,h7⟩:=x_field hxs hf 7 _ rfl
 obtain ⟨y0,k0,b0⟩:=opens3.field h0
 obtain ⟨y1,k1,b1⟩:=opens3.field h1
 obtain ⟨y2,k2,b2⟩:=opens3.field h2
 obtain ⟨y3,k3,b3⟩:=opens3.field h3
 obtain ⟨y4,k4,b4⟩:=opens3.field h4
 obtain ⟨y5,k5,b5⟩:=opens3.field h5
 obtain ⟨y6,k6,b6⟩:=opens3.field h6
 obtain ⟨y7,k7,b7⟩:=opens22.field h7
 refine ⟨⟨y0,y1,y2,y3,y4,y5,y6,y7⟩,⟨_,_,?_,k0,⟨_,_,rfl,k1,⟨_,_,rfl,k2,⟨_,_,rfl,k3,⟨_,_,rfl,k4,⟨_,_,rfl,k5,⟨_,_,rfl,k6,k7⟩⟩⟩⟩⟩⟩⟩,b0,b1,b2,b3,b4,b5,b6,b7⟩
 show cs=(cs.drop 0).take 1++((cs.drop 1).take 1++((cs.drop 2).take 1++((cs.drop 3).take 1++((cs.drop 4).take 1++((cs.drop 5).take 1++((cs.drop 6).take 1++((cs.drop 7).take 1)))))))
 match cs,hl with
 | [c0,c1,c2,c3,c4,c5,c6,c7],_=>rfl
section
open Go.Proofs.YtfpfpckocemmdaaGreat.Spec in
theorem does_law (x0:S26) (m:S28) (s:ByteArray) (id n:Int) (b0:B26 x0) (b1:B28 m) (b2:s.size≤maxLen) (A6 A7 A8 A:Option Addr) (c6 c7 c8 c:Nat) (w:World) (h6:Kd.C Kd.string w A6 x0.f6.length x0.f6) (l6:x0.f6.length≤c6) (h7:Kd.C (Kd.int .i64) w A7 x0.f7.length x0.f7) (l7:x0.f7.length≤c7) (h8:Kd.C k63 w A8 x0.f8.length x0.f8) (l8:x0.f8.length≤c8) (hm:Kd.C Kd.string w A m.f7.length m.f7) (lm:m.f7.length≤c) :
  Calls Tryz.prog 3 #[.agg #[.int .i64 x0.f0,.int .i64 x0.f1,.int .i64 x0.f2,.int .i64 x0.f3,.bool x0.f4,.int .i64 x0.f5,.slice A6 x0.f6.length c6,.slice A7 x0.f7.length c7,.slice A8 x0.f8.length c8],.agg #[.int .i64 m.f0,.int .i64 m.f1,.int .i64 m.f2,.int .i64 m.f3,.int .i64 m.f4,.int .i64 m.f5,.int .i64 m.f6,.slice A m.f7.length c],.string s,.int .i64 id,.int .i64 n] w fun e w'=>e=.returned (.bool true)∧Below w.heap.size w w':=by
 obtain ⟨x0,x1,x2,x3,x4,x5,x6,x7,x8⟩:=x0
 obtain ⟨-,-,-,-,-,-,g6,g7,g8⟩:=b0
 simp only at g6 g7 g8 h6 l6 h7 l7 h8 l8
 obtain ⟨K,hK⟩:∃ K:Nat,9223372036854777000 < K:=⟨_,Nat.lt_succ_self _⟩
 have hfar:=far_of x0 x1 x2 x3 x4 x5 x6 x7 x8 m.f0 m.f1 m.f2 m.f3 m.f4 m.f5 m.f6 m.f7 s 9223372036854775807 (Nat.le_refl _) g6.1 g8.1 (fun v hv=>(g8.2 v hv).2.2.2.1) K (by omega)
 cases hf:farB x6 x7 x8 m.f7 s with
 | true =>
  rw [hf] at hfar
  exact does_far ⟨x0,x1,x2,x3,x4,x5,x6,x7,x8,[]⟩ m s id n A6 A7 A8 A c6 c7 c8 c w h6 l6 h7 l7 h8 l8 hm lm K hfar
 | false =>
  rw [hf] at hfar
  have hs:=far_not hf
  have hfit:=hs.fits (fun v hv=>(g8.2 v hv).1)
  have harg:Arg w ⟨x0,x1,x2,x3,x4,x5,x6,x7,x8,[]⟩ A6 A7 A8 c6 c7 c8:=arg_of h6 l6 h7 l7 h8 l8 hfit
  have hx:Nice ⟨x0,x1,x2,x3,x4,x5,x6,x7,x8,[]⟩:=⟨⟨by have:=hs.log;show x6.length≤1000;omega,by have:=hs.acks;show x7.length≤1000;omega,by have:=hs.votes;show x8.length≤1000;omega,fun v hv=>by have:=hs.each v hv;omega⟩,⟨harg.hl,harg.ha,harg.hvl,harg.hv⟩,by simp,fun m hm=>by cases hm⟩
  obtain ⟨a,e,ha⟩:∃ a e,askOf ⟨x0,x1,x2,x3,x4,x5,x6,x7,x8,[]⟩ s=(a,e):=⟨_,_,rfl⟩
  obtain ⟨k0,g,hk⟩:∃ a e,timeoutOf ⟨x0,x1,x2,x3,x4,x5,x6,x7,x8,[]⟩=(a,e):=⟨_,_,rfl⟩
  obtain ⟨u,i,hu⟩:∃ a e,handleOf ⟨x0,x1,x2,x3,x4,x5,x6,x7,x8,[]⟩ m=(a,e):=⟨_,_,rfl⟩
  obtain ⟨y,tt,hy⟩:∃ a e,restartOf ⟨x0,x1,x2,x3,x4,x5,x6,x7,x8,[]⟩=(a,e):=⟨_,_,rfl⟩
  obtain ⟨z,ab,hz⟩:∃ a e,newOf id n=(a,e):=⟨_,_,rfl⟩
  have hl:m.f7.length≤1000:=by have:=hs.msg;omega
  have na:=ask_nice ⟨x0,x1,x2,x3,x4,x5,x6,x7,x8,[]⟩ s
  have nk:=timeout_nice ⟨x0,x1,x2,x3,x4,x5,x6,x7,x8,[]⟩
  have nu:=handle_nice ⟨x0,x1,x2,x3,x4,x5,x6,x7,x8,[]⟩ m hl
  have ny:=restart_nice ⟨x0,x1,x2,x3,x4,x5,x6,x7,x8,[]⟩
  have nz:=new_nice id n
  rw [ha] at na;rw [hk] at nk;rw [hu] at nu;rw [hy] at ny;rw [hz] at nz
  exact does_walk ⟨x0,x1,x2,x3,x4,x5,x6,x7,x8,[]⟩ m s id n A6 A7 A8 A c6 c7 c8 c w a k0 u y z e g i tt ab harg hm lm K (by omega) hfar hx hl ha hk hu hy hz na nk nu ny nz
end
end Go.Proofs.YtfpfpckocemmdaaGreat.P
