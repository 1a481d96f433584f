/- Part 46 of the walk. -/
import Derived.Test.YtfpfpckocemmdaaGreatCDoes41
set_option linter.unusedVariables false
set_option linter.unusedSimpArgs false
set_option maxHeartbeats 8000000
set_option maxRecDepth 100000
namespace Go.Proofs.YtfpfpckocemmdaaGreat.Spec
open Go.RowKit Go.Proofs.YtfpfpckocemmdaaGreatW.PrintWords Go.Proofs.YtfpfpckocemmdaaGreatW.PrintLast Go.Proofs.YtfpfpckocemmdaaGreatW.PrintMore Go.Proofs.YtfpfpckocemmdaaGreat.P
theorem wrap_nat (i:Nat) (h:i < 9223372036854775807):wrap64 ((i:Int)+1)=((i+1:Nat):Int):=by unfold wrap64;omega
theorem rd63_nat (l:List S63) (i:Nat) (h:i < l.length):rd_T63 l (i:Int)=l[i]:=by
 unfold rd_T63
 simp [List.getD_eq_getElem?_getD,List.getElem?_eq_getElem h]
theorem rdS_nat (l:List ByteArray) (i:Nat) (h:i < l.length):rdOf ByteArray.empty l (i:Int)=l[i]:=by
 unfold rdOf
 simp [List.getD_eq_getElem?_getD,List.getElem?_eq_getElem h]
theorem texts_loop (a:List ByteArray) (hm:a.length≤9223372036854775807) (d:Nat):∀ (k i:Nat),a.length - i=d→i≤a.length→d < k→sextonref01_Texts.l0 k a a (i:Int)=some true:=by
 induction d with
 | zero =>
  intro k i hd hi hk
  obtain ⟨k,rfl⟩:∃ m,k=m+1:=⟨k - 1,by omega⟩
  simp only [sextonref01_Texts.l0]
  rw [if_neg (by omega)]
 | succ d ih =>
  intro k i hd hi hk
  obtain ⟨k,rfl⟩:∃ m,k=m+1:=⟨k - 1,by omega⟩
  simp only [sextonref01_Texts.l0]
  rw [if_pos (by omega),if_pos (by omega),if_pos (by omega),if_pos trivial,wrap_nat i (by omega),ih k (i+1) (by omega) (by omega) (by omega)]
theorem texts_self (a:List ByteArray) (hm:a.length≤9223372036854775807) (k:Nat) (hk:a.length < k):sextonref01_Texts.f k a a=some true:=by
 simp only [sextonref01_Texts.f]
 rw [if_pos trivial]
 exact texts_loop a hm a.length k 0 (by omega) (by omega) hk
theorem ints_loop (a:List Int) (hm:a.length≤9223372036854775807) (d:Nat):∀ (k i:Nat),a.length - i=d→i≤a.length→d < k→sextonref01_Ints.l0 k a a (i:Int)=some true:=by
 induction d with
 | zero =>
  intro k i hd hi hk
  obtain ⟨k,rfl⟩:∃ m,k=m+1:=⟨k - 1,by omega⟩
  simp only [sextonref01_Ints.l0]
  rw [if_neg (by omega)]
 | succ d ih =>
  intro k i hd hi hk
  obtain ⟨k,rfl⟩:∃ m,k=m+1:=⟨k - 1,by omega⟩
  simp only [sextonref01_Ints.l0]
  rw [if_pos (by omega),if_pos (by omega),if_pos (by omega),if_pos trivial,wrap_nat i (by omega),ih k (i+1) (by omega) (by omega) (by omega)]
theorem ints_self (a:List Int) (hm:a.length≤9223372036854775807) (k:Nat) (hk:a.length < k):sextonref01_Ints.f k a a=some true:=by
 simp only [sextonref01_Ints.f]
 rw [if_pos trivial]
 exact ints_loop a hm a.length k 0 (by omega) (by omega) hk
theorem short_loop (a:List ByteArray) (hm:a.length≤9223372036854775807) (d:Nat):∀ (k i:Nat),a.length - i=d→i≤a.length→d < k→sextonref01_Short.l0 k a (i:Int)=some ((a.drop i).all fun s=>decide ((s.size:Int)≤300)):=by
 induction d with
 | zero =>
  intro k i hd hi hk
  obtain ⟨k,rfl⟩:∃ m,k=m+1:=⟨k - 1,by omega⟩
  simp only [sextonref01_Short.l0]
  rw [if_neg (by omega),List.drop_eq_nil_of_le (by omega)]
  rfl
 | succ d ih =>
  intro k i hd hi hk
  obtain ⟨k,rfl⟩:∃ m,k=m+1:=⟨k - 1,by omega⟩
  have hi':i < a.length:=by omega
  simp only [sextonref01_Short.l0]
  rw [if_pos (by omega),if_pos (by omega),rdS_nat a i hi',wrap_nat i (by omega),ih k (i+1) (by omega) (by omega) (by omega),List.drop_eq_getElem_cons hi',List.all_cons]
  by_cases h:(a[i].size:Int) > 300
  ·rw [if_pos h,decide_eq_false (by omega)];rfl
  ·rw [if_neg h,decide_eq_true (by omega)];rfl
theorem short_of (a:List ByteArray) (hm:a.length≤9223372036854775807) (k:Nat) (hk:a.length < k):sextonref01_Short.f k a=some (a.all fun s=>decide ((s.size:Int)≤300)):=by
 simp only [sextonref01_Short.f]
 exact short_loop a hm a.length k 0 (by omega) (by omega) hk
def bigV (v:S63):Bool:=!(v.f3.all fun s=>decide ((s.size:Int)≤300)) || decide ((v.f3.length:Int) > 70)
def bigVs (a:List S63):Bool:=if (a.length:Int)≤30 then a.any bigV else true
theorem big22_loop (a:List S63) (hm:a.length≤30) (B:Nat) (hB:B≤9223372036854775807) (hv:∀ v,v∈a→v.f3.length≤B) (d:Nat):∀ (k i:Nat),a.length - i=d→i≤a.length→2 * d+B+2 < k→sextonref22_Big.l0 k a (i:Int)=some ((a.drop i).any bigV):=by
 induction d with
 | zero =>
  intro k i hd hi hk
  obtain ⟨k,rfl⟩:∃ m,k=m+2:=⟨k - 2,by omega⟩
  simp only [sextonref22_Big.l0]
  rw [if_neg (by omega),List.drop_eq_nil_of_le (by omega)]
  simp only [sextonref22_Big.j1]
  rw [if_neg (by simp),decide_eq_false (by omega)]
  rfl
 | succ d ih =>
  intro k i hd hi hk
  obtain ⟨k,rfl⟩:∃ m,k=m+1:=⟨k - 1,by omega⟩
  have hi':i < a.length:=by omega
  have hl:=hv _ (List.getElem_mem hi')
  simp only [sextonref22_Big.l0]
  rw [if_pos (by omega),decide_eq_true (by omega)]
  obtain ⟨k,rfl⟩:∃ m,k=m+1:=⟨k - 1,by omega⟩
  simp only [sextonref22_Big.j1]
  rw [if_pos trivial,if_pos (by omega),if_pos (by omega),rd63_nat a i hi',short_of _ (by omega) k (by omega),wrap_nat i (by omega),ih k (i+1) (by omega) (by omega) (by omega),List.drop_eq_getElem_cons hi',List.any_cons]
  simp only [Option.bind_some]
  cases hs:a[i].f3.all (fun s=>decide ((s.size:Int)≤300)) with
  | false =>
   rw [if_neg (by simp)]
   simp [bigV,hs]
  | true =>
   rw [if_pos rfl]
   by_cases h:(a[i].f3.length:Int) > 70
   ·rw [if_pos h];simp only [bigV,hs,decide_eq_true h];rfl
   ·rw [if_neg h];simp only [bigV,hs,decide_eq_false h];rfl
theorem big22_of (a:List S63) (hm:a.length≤9223372036854775807) (B:Nat) (hB:B≤9223372036854775807) (hv:∀ v,v∈a→v.f3.length≤B) (k:Nat) (hk:64+B < k):sextonref22_Big.f k a=some (bigVs a):=by
 simp only [sextonref22_Big.f]
 unfold bigVs
 by_cases h:(a.length:Int)≤30
 ·rw [if_pos h]
  exact big22_loop a (by omega) B hB hv a.length k 0 (by omega) (by omega) (by omega)
 ·rw [if_neg h]
  obtain ⟨k,rfl⟩:∃ m,k=m+2:=⟨k - 2,by omega⟩
  simp only [sextonref22_Big.l0]
  rw [if_pos (by omega),decide_eq_false (by omega)]
  simp only [sextonref22_Big.j1]
  rw [if_neg (by simp),decide_eq_true (by omega)]
def bigM (l:List ByteArray):Bool:=if (l.length:Int)≤80 then l.any (fun s=>decide ((s.size:Int) > 400)) else true
theorem big23_loop (a0 a1 a2 a3 a4 a5 a6:Int) (a:List ByteArray) (hm:a.length≤80) (d:Nat):∀ (k i:Nat),a.length - i=d→i≤a.length→2 * d+2 < k→sextonref23_Big.l0 k (i:Int) a0 a1 a2 a3 a4 a5 a6 a=some ((a.drop i).any fun s=>decide ((s.size:Int) > 400)):=by
 induction d with
 | zero =>
  intro k i hd hi hk
  obtain ⟨k,rfl⟩:∃ m,k=m+2:=⟨k - 2,by omega⟩
  simp only [sextonref23_Big.l0]
  rw [if_neg (by omega),List.drop_eq_nil_of_le (by omega)]
  simp only [sextonref23_Big.j1]
  rw [if_neg (by simp),decide_eq_false (by omega)]
  rfl
 | succ d ih =>
  intro k i hd hi hk
  obtain ⟨k,rfl⟩:∃ m,k=m+1:=⟨k - 1,by omega⟩
  have hi':i < a.length:=by omega
  simp only [sextonref23_Big.l0]
  rw [if_pos (by omega),decide_eq_true (by omega)]
  obtain ⟨k,rfl⟩:∃ m,k=m+1:=⟨k - 1,by omega⟩
  simp only [sextonref23_Big.j1]
  rw [if_pos trivial,if_pos (by omega),if_pos (by omega),rdS_nat a i hi',wrap_nat i (by omega),ih k (i+1) (by omega) (by omega) (by omega),List.drop_eq_getElem_cons hi',List.any_cons]
  by_cases h:(a[i].size:Int) > 400
  ·rw [if_pos h,decide_eq_true h];rfl
  ·rw [if_neg h,decide_eq_false h];rfl
theorem big23_of (a0 a1 a2 a3 a4 a5 a6:Int) (a:List ByteArray) (k:Nat) (hk:170 < k):sextonref23_Big.f k a0 a1 a2 a3 a4 a5 a6 a=some (bigM a):=by
 simp only [sextonref23_Big.f]
 unfold bigM
 by_cases h:(a.length:Int)≤80
 ·rw [if_pos h]
  exact big23_loop a0 a1 a2 a3 a4 a5 a6 a (by omega) a.length k 0 (by omega) (by omega) (by omega)
 ·rw [if_neg h]
  obtain ⟨k,rfl⟩:∃ m,k=m+2:=⟨k - 2,by omega⟩
  simp only [sextonref23_Big.l0]
  rw [if_pos (by omega),decide_eq_false (by omega)]
  simp only [sextonref23_Big.j1]
  rw [if_neg (by simp),decide_eq_true (by omega)]
def farB (l6:List ByteArray) (l7:List Int) (l8:List S63) (m7:List ByteArray) (s:ByteArray):Bool:=bigVs [⟨0,0,0,l6⟩] || (bigVs l8 || (decide ((l7.length:Int) > 30) || (bigM m7 || decide ((s.size:Int) > 400))))
theorem far_of (a0 a1 a2 a3:Int) (a4:Bool) (a5:Int) (l6:List ByteArray) (l7:List Int) (l8:List S63) (b0 b1 b2 b3 b4 b5 b6:Int) (m7:List ByteArray) (s:ByteArray) (B:Nat) (hB:B≤9223372036854775807) (h6:l6.length≤B) (h8:l8.length≤9223372036854775807) (hv:∀ v,v∈l8→v.f3.length≤B) (k:Nat) (hk:171+B < k) :
  sextonlaw24_far.f k a0 a1 a2 a3 a4 a5 l6 l7 l8 b0 b1 b2 b3 b4 b5 b6 m7 s=some (farB l6 l7 l8 m7 s):=by
 have e1:sextonref22_Big.f k [⟨0,0,0,l6⟩]=some (bigVs [⟨0,0,0,l6⟩]):=big22_of _ (by simp) B hB (by intro v hv;simp at hv;subst hv;exact h6) k (by omega)
 have e2:=big22_of l8 h8 B hB hv k (by omega)
 have e3:=big23_of b0 b1 b2 b3 b4 b5 b6 m7 k (by omega)
 simp only [sextonlaw24_far.f,sextonref24_Big.f,e1,e2,e3,Option.bind_some]
 unfold farB
 cases bigVs [⟨0,0,0,l6⟩] with
 | true=>simp
 | false =>
  cases bigVs l8 with
  | true=>simp
  | false =>
   by_cases h7:(l7.length:Int) > 30
   ·simp [h7]
   ·cases bigM m7<;>simp [h7]
structure Small (l6:List ByteArray) (l7:List Int) (l8:List S63) (m7:List ByteArray) (s:ByteArray):Prop where
 log:l6.length≤70
 acks:l7.length≤30
 votes:l8.length≤30
 each:∀ v,v∈l8→v.f3.length≤70
 msg:m7.length≤80
 text:s.size≤400
theorem bigVs_not {a:List S63} (h:bigVs a=false):a.length≤30∧∀ v,v∈a→v.f3.length≤70:=by
 unfold bigVs at h
 split at h
 ·refine ⟨by omega,fun v hv=>?_⟩
  have h2:=List.any_eq_false.1 h v hv
  simp only [bigV,Bool.or_eq_true,decide_eq_true_eq,not_or] at h2
  omega
 ·cases h
theorem far_not {l6:List ByteArray} {l7:List Int} {l8:List S63} {m7:List ByteArray} {s:ByteArray} (h:farB l6 l7 l8 m7 s=false):Small l6 l7 l8 m7 s:=by
 unfold farB at h
 simp only [Bool.or_eq_false_iff,decide_eq_false_iff_not] at h
 obtain ⟨h1,h2,h3,h4,h5⟩:=h
 have k1:=(bigVs_not h1).2 ⟨0,0,0,l6⟩ (by simp)
 have k2:=bigVs_not h2
 refine ⟨k1,by omega,k2.1,k2.2,?_,by omega⟩
 unfold bigM at h4
 split at h4
 ·omega
 ·cases h4
theorem Small.fits {l6:List ByteArray} {l7:List Int} {l8:List S63} {m7:List ByteArray} {s:ByteArray} (h:Small l6 l7 l8 m7 s) (hw:∀ v,v∈l8→(Lit.int .i64 v.f0).wf=true):fitB l6 l7 l8=true:=by
 unfold fitB
 have h1:=h.log
 have h2:=h.acks
 have h3:=h.votes
 simp only [Bool.and_eq_true,decide_eq_true_eq,List.all_eq_true]
 exact ⟨⟨⟨by omega,by omega⟩,by omega⟩,fun v hv=>⟨by have:=h.each v hv;omega,hw v hv⟩⟩
end Go.Proofs.YtfpfpckocemmdaaGreat.Spec
namespace Go.Proofs.YtfpfpckocemmdaaGreat.P
open Go.RowKit Go.Proofs.YtfpfpckocemmdaaGreatW.PrintWords Go.Proofs.YtfpfpckocemmdaaGreatW.PrintLast Go.Proofs.YtfpfpckocemmdaaGreatW.PrintMore
abbrev R4 (a:Addr) (v:S63) (u:Value) (W:World):Prop:=W.cell? a=some (.int .i64 v.f0)∧W.cell? ⟨a.block,a.off+1,none⟩=some (.int .i64 v.f1)∧W.cell? ⟨a.block,a.off+2,none⟩=some (.int .i64 v.f2)∧W.cell? ⟨a.block,a.off+3,none⟩=some u
abbrev R8 (a:Addr) (v:S28) (u:Value) (W:World):Prop:=W.cell? a=some (.int .i64 v.f0)∧W.cell? ⟨a.block,a.off+1,none⟩=some (.int .i64 v.f1)∧W.cell? ⟨a.block,a.off+2,none⟩=some (.int .i64 v.f2)∧W.cell? ⟨a.block,a.off+3,none⟩=some (.int .i64 v.f3)∧W.cell? ⟨a.block,a.off+4,none⟩=some (.int .i64 v.f4)∧W.cell? ⟨a.block,a.off+5,none⟩=some (.int .i64 v.f5)∧W.cell? ⟨a.block,a.off+6,none⟩=some (.int .i64 v.f6)∧W.cell? ⟨a.block,a.off+7,none⟩=some u
theorem r4_below {a:Addr} {v:S63} {u:Value} {W W1:World} (h:R4 a v u W) (hb:Below W.heap.size W W1):R4 a v u W1:=by
 obtain ⟨h0,h1,h2,h3⟩:=h
 exact ⟨pw_cell_below hb h0,pw_cell_below hb h1,pw_cell_below hb h2,pw_cell_below hb h3⟩
theorem r8_below {a:Addr} {v:S28} {u:Value} {W W1:World} (h:R8 a v u W) (hb:Below W.heap.size W W1):R8 a v u W1:=by
 obtain ⟨h0,h1,h2,h3,h4,h5,h6,h7⟩:=h
 exact ⟨pw_cell_below hb h0,pw_cell_below hb h1,pw_cell_below hb h2,pw_cell_below hb h3,pw_cell_below hb h4,pw_cell_below hb h5,pw_cell_below hb h6,pw_cell_below hb h7⟩
theorem at4 {w:World} {A:Option Addr} {xs:List S63} (h:Kd.C k63 w A xs.length xs) (i:Nat) (hi:i < xs.length):∃ ad B c,A=some ad∧R4 (ad.add (i * 4)) xs[i] (.slice B (xs[i]).f3.length c) w∧(xs[i]).f3.length≤c∧Kd.C Kd.string w B (xs[i]).f3.length (xs[i]).f3:=by
 obtain ⟨ad,B,c,e,h0,h1,h2,h3,hl,hc⟩:=at_T63 h (i:Int) (by omega) (by omega)
 rw [show rd_T63 xs (i:Int)=xs[i] from by simp [rd_T63,List.getD_eq_getElem?_getD,hi]] at h0 h1 h2 h3 hl hc
 simp only [Int.toNat_natCast] at h0 h1 h2 h3
 exact ⟨ad,B,c,e,⟨h0,h1,h2,h3⟩,hl,hc⟩
theorem at8 {w:World} {A:Option Addr} {xs:List S28} (h:Kd.C k28 w A xs.length xs) (i:Nat) (hi:i < xs.length):∃ ad B c,A=some ad∧R8 (ad.add (i * 8)) xs[i] (.slice B (xs[i]).f7.length c) w∧(xs[i]).f7.length≤c∧Kd.C Kd.string w B (xs[i]).f7.length (xs[i]).f7:=by
 obtain ⟨ad,B,c,e,h0,h1,h2,h3,h4,h5,h6,h7,hl,hc⟩:=at_T28 h (i:Int) (by omega) (by omega)
 rw [show rd_T28 xs (i:Int)=xs[i] from by simp [rd_T28,List.getD_eq_getElem?_getD,hi]] at h0 h1 h2 h3 h4 h5 h6 h7 hl hc
 simp only [Int.toNat_natCast] at h0 h1 h2 h3 h4 h5 h6 h7
 exact ⟨ad,B,c,e,⟨h0,h1,h2,h3,h4,h5,h6,h7⟩,hl,hc⟩
theorem rd2 {P:World→Prop} {w:World} {cs c2:Array Value} {t t2:Nat} (k:∀ V,Rd w V w.heap.size cs t→V.heap[w.heap.size+1]?=some (.cells c2 t2 (0,0))→P V):P ((w.alloc (.cells cs t)).alloc (.cells c2 t2)) :=
 k _ ((rd1 w cs t).call (below_alloc (Below.refl _ _) _)) (alloc2_new w _ _)
theorem rtexts {l:List ByteArray} (hl:l.length≤1000) {A B:Option Addr} {a b:Nat} {w:World} (hA:Kd.C Kd.string w A l.length l) (la:l.length≤a) (hB:Kd.C Kd.string w B l.length l) (lb:l.length≤b):Calls Tryz.prog 54 #[.slice A l.length a,.slice B l.length b] w fun e w'=>e=.returned (.bool true)∧Below w.heap.size w w' :=
 (sextonref01_Texts.calls 1001 A a l B b l _ w hA la hB lb (Spec.texts_self l (by omega) _ (by omega))).mono fun _ _ h=>⟨h.1,h.2.below⟩
theorem rsv_calls {v:S63} (hv:v.f3.length≤1000) {A B:Option Addr} {a b:Nat} {w:World} (hA:Kd.C Kd.string w A v.f3.length v.f3) (la:v.f3.length≤a) (hB:Kd.C Kd.string w B v.f3.length v.f3) (lb:v.f3.length≤b) :
  Calls Tryz.prog 86 #[.agg #[.int .i64 v.f0,.int .i64 v.f1,.int .i64 v.f2,.slice A v.f3.length a],.agg #[.int .i64 v.f0,.int .i64 v.f1,.int .i64 v.f2,.slice B v.f3.length b]] w fun e w'=>e=.returned (.bool true)∧Below w.heap.size w w':=by
 have hu63:=Tryz.underlying63
 have hu22:=Tryz.underlying22
 go_enter Tryz.func86,Tryz.ntmps86
 go_upto_region 1 with (fail)
 refine rd2 fun V H hx=>?_
 obtain ⟨p0,p1,p2,p3⟩:=cells4 H.x
 obtain ⟨q0,q1,q2,q3⟩:=cells4 hx
 go_wp2_with (fail)
 go_at_call 54
 refine (rtexts hv (Kd.C_below hA H.b) la (Kd.C_below hB H.b) lb).mono ?_
 rintro e' w1 ⟨rfl,hb⟩
 go_wp2
 go_ret
 exact ⟨rfl,(H.call hb).b⟩
theorem rsm_calls {v:S28} (hv:v.f7.length≤1000) {A B:Option Addr} {a b:Nat} {w:World} (hA:Kd.C Kd.string w A v.f7.length v.f7) (la:v.f7.length≤a) (hB:Kd.C Kd.string w B v.f7.length v.f7) (lb:v.f7.length≤b) :
  Calls Tryz.prog 57 #[.agg (mg v A a),.agg (mg v B b)] w fun e w'=>e=.returned (.bool true)∧Below w.heap.size w w':=by
 have hu28:=Tryz.underlying28
 have hu22:=Tryz.underlying22
 dsimp only [mg]
 go_enter Tryz.func57,Tryz.ntmps57
 go_upto_region 1 with (fail)
 refine rd2 fun V H hx=>?_
 obtain ⟨p0,p1,p2,p3,p4,p5,p6,p7⟩:=cells8 H.x
 obtain ⟨q0,q1,q2,q3,q4,q5,q6,q7⟩:=cells8 hx
 go_wp2_with (fail)
 go_at_call 54
 refine (rtexts hv (Kd.C_below hA H.b) la (Kd.C_below hB H.b) lb).mono ?_
 rintro e' w1 ⟨rfl,hb⟩
 go_wp2
 go_ret
 exact ⟨rfl,(H.call hb).b⟩
theorem rs22_calls {l:List S63} (hl:l.length≤1000) (he:∀ v,v∈l→v.f3.length≤1000) {A B:Option Addr} {a b:Nat} {w:World} (hA:Kd.C k63 w A l.length l) (hB:Kd.C k63 w B l.length l) :
  Calls Tryz.prog 56 #[.slice A l.length a,.slice B l.length b] w fun e w'=>e=.returned (.bool true)∧Below w.heap.size w w':=by
 have hu63:=Tryz.underlying63
 have hu24:=Tryz.underlying24
 go_enter Tryz.func56,Tryz.ntmps56
 go_wp2_with (fail)
 go_loopg [5] l.length (fun kq s w'=>∃ i:Nat,s=.int .i64 (i:Int)∧Aside0 (kq=l.length - i∧i≤l.length)∧Aside0 (Below w.heap.size w w'))
 case atStart=>exact ⟨0,rfl,⟨by simp⟩,⟨Below.refl _ _⟩⟩
 case round =>
  obtain ⟨i,rfl,hi,hb⟩:=hrel
  by_cases hlt:i < l.length
  ·have hb1:decide ((i:Int) < (l.length:Int))=true:=decide_eq_true (by omega)
   obtain ⟨ad,A3,c3,rfl,ra,la,ha⟩:=at4 (Kd.C_below hA hb.out) i hlt
   obtain ⟨bd,B3,d3,rfl,rb,lb,hb3⟩:=at4 (Kd.C_below hB hb.out) i hlt
   have hv:=he _ (List.getElem_mem hlt)
   generalize l[i]=v at ra la ha rb lb hb3 hv
   have p1':=eq_true (show (0:Int)≤(i:Int) by omega)
   have q1':=eq_true (show (i:Int) < (l.length:Int) by omega)
   go_upto_region 6 with (fail)
   have hbw:=below_drew_any hb.out
   go_region_held3 (fun W=>R4 (ad.add (i * 4)) v (.slice A3 v.f3.length c3) W∧R4 (bd.add (i * 4)) v (.slice B3 v.f3.length d3) W)
    (first | exact ⟨ra,rb⟩ | exact ⟨r4_below (W:=World.drew _) ra hc,r4_below (W:=World.drew _) rb hc⟩)
    (first | (refine x_step_call rfl Tryz.func86 (by kernel_rfl) rfl #[.agg #[.int .i64 v.f0,.int .i64 v.f1,.int .i64 v.f2,.slice A3 v.f3.length c3],.agg #[.int .i64 v.f0,.int .i64 v.f1,.int .i64 v.f2,.slice B3 v.f3.length d3]] rfl (by simp [Act.eval,Act.put]) ?_;refine (rsv_calls hv (Kd.C_drew ha) la (Kd.C_drew hb3) lb).mono ?_;rintro e w1 ⟨rfl,hc⟩;replace hbw:=below_then hbw hbw.size hc;refine ⟨_,rfl,?_⟩))
   go_wp2
   go_roundg (l.length - (i+1))
   case measure=>have:=hi.out.1;omega
   case rel=>exact ⟨i+1,rfl,⟨by have:=hi.out;omega,by omega⟩,⟨hbw⟩⟩
  ·have hb1:decide ((i:Int) < (l.length:Int))=false:=decide_eq_false (by omega)
   go_wp2
   go_ret
   exact ⟨rfl,hb.out⟩
theorem rsrow_calls {l:List S28} (hl:l.length≤1000) (he:∀ v,v∈l→v.f7.length≤1000) {A B:Option Addr} {a b:Nat} {w:World} (hA:Kd.C k28 w A l.length l) (hB:Kd.C k28 w B l.length l) :
  Calls Tryz.prog 15 #[.slice A l.length a,.slice B l.length b] w fun e w'=>e=.returned (.bool true)∧Below w.heap.size w w':=by
 have hu28:=Tryz.underlying28
 have hu31:=Tryz.underlying31
 go_enter Tryz.func15,Tryz.ntmps15
 go_wp2_with (fail)
 go_loopg [5] l.length (fun kq s w'=>∃ i:Nat,s=.int .i64 (i:Int)∧Aside0 (kq=l.length - i∧i≤l.length)∧Aside0 (Below w.heap.size w w'))
 case atStart=>exact ⟨0,rfl,⟨by simp⟩,⟨Below.refl _ _⟩⟩
 case round =>
  obtain ⟨i,rfl,hi,hb⟩:=hrel
  by_cases hlt:i < l.length
  ·have hb1:decide ((i:Int) < (l.length:Int))=true:=decide_eq_true (by omega)
   obtain ⟨ad,A3,c3,rfl,ra,la,ha⟩:=at8 (Kd.C_below hA hb.out) i hlt
   obtain ⟨bd,B3,d3,rfl,rb,lb,hb3⟩:=at8 (Kd.C_below hB hb.out) i hlt
   have hv:=he _ (List.getElem_mem hlt)
   generalize l[i]=v at ra la ha rb lb hb3 hv
   have p1':=eq_true (show (0:Int)≤(i:Int) by omega)
   have q1':=eq_true (show (i:Int) < (l.length:Int) by omega)
   go_upto_region 6 with (fail)
   have hbw:=below_drew_any hb.out
   go_region_held3 (fun W=>R8 (ad.add (i * 8)) v (.slice A3 v.f7.length c3) W∧R8 (bd.add (i * 8)) v (.slice B3 v.f7.length d3) W)
    (first | exact ⟨ra,rb⟩ | exact ⟨r8_below (W:=World.drew _) ra hc,r8_below (W:=World.drew _) rb hc⟩)
    (first | (refine x_step_call rfl Tryz.func57 (by kernel_rfl) rfl #[.agg (mg v A3 c3),.agg (mg v B3 d3)] rfl (by simp [Act.eval,Act.put]) ?_;refine (rsm_calls hv (Kd.C_drew ha) la (Kd.C_drew hb3) lb).mono ?_;rintro e w1 ⟨rfl,hc⟩;replace hbw:=below_then hbw hbw.size hc;refine ⟨_,rfl,?_⟩))
   go_wp2
   go_roundg (l.length - (i+1))
   case measure=>have:=hi.out.1;omega
   case rel=>exact ⟨i+1,rfl,⟨by have:=hi.out;omega,by omega⟩,⟨hbw⟩⟩
  ·have hb1:decide ((i:Int) < (l.length:Int))=false:=decide_eq_false (by omega)
   go_wp2
   go_ret
   exact ⟨rfl,hb.out⟩
theorem rs24_calls {x:Nod} (hx:Few x) {A6 A7 A8 B6 B7 B8:Option Addr} {c6 c7 c8 d6 d7 d8:Nat} {w:World} (ha:Arg w x A6 A7 A8 c6 c7 c8) (hb:Arg w x B6 B7 B8 d6 d7 d8) :
  Calls Tryz.prog 14 #[ag x (.slice A6 x.log.length c6) (.slice A7 x.acks.length c7) (.slice A8 x.votes.length c8),ag x (.slice B6 x.log.length d6) (.slice B7 x.acks.length d7) (.slice B8 x.votes.length d8)] w fun e w'=>e=.returned (.bool true)∧Below w.heap.size w w':=by
 have hu26:=Tryz.underlying26
 have hu22:=Tryz.underlying22
 have hu23:=Tryz.underlying23
 have hu24:=Tryz.underlying24
 dsimp only [ag,row9]
 go_enter Tryz.func14,Tryz.ntmps14
 go_upto_region 1 with (fail)
 refine rd2 fun V H hy=>?_
 obtain ⟨p0,p1,p2,p3,p4,p5,p6,p7,p8⟩:=cells9 H.x
 obtain ⟨q0,q1,q2,q3,q4,q5,q6,q7,q8⟩:=cells9 hy
 go_wp2_with (fail)
 clear p0 p1 p2 p3 p4 p5 p6 p7 p8 q0 q1 q2 q3 q4 q5 q6 q7 q8
 go_at_call 54
 refine (rtexts hx.log (ha.below H.b).h6 ha.l6 (hb.below H.b).h6 hb.l6).mono ?_
 rintro e' w1 ⟨rfl,hd⟩
 replace hy:=(hd.block _ (blk_lt hy)).trans hy
 replace H:=H.call hd
 clear hd
 obtain ⟨p0,p1,p2,p3,p4,p5,p6,p7,p8⟩:=cells9 H.x
 obtain ⟨q0,q1,q2,q3,q4,q5,q6,q7,q8⟩:=cells9 hy
 go_wp2_with (fail)
 clear p0 p1 p2 p3 p4 p5 p6 p7 p8 q0 q1 q2 q3 q4 q5 q6 q7 q8
 go_at_call 55
 refine (sextonref01_Ints.calls 1001 A7 c7 x.acks B7 d7 x.acks _ w1 (ha.below H.b).h7 ha.l7 (hb.below H.b).h7 hb.l7 (Spec.ints_self _ (by have:=hx.acks;omega) _ (by have:=hx.acks;omega))).mono ?_
 rintro e' w2 ⟨rfl,hd⟩
 replace hy:=(hd.below.block _ (blk_lt hy)).trans hy
 replace H:=H.call hd.below
 clear hd
 obtain ⟨p0,p1,p2,p3,p4,p5,p6,p7,p8⟩:=cells9 H.x
 obtain ⟨q0,q1,q2,q3,q4,q5,q6,q7,q8⟩:=cells9 hy
 go_wp2_with (fail)
 go_at_call 56
 refine (rs22_calls hx.votes hx.each (ha.below H.b).h8 (hb.below H.b).h8).mono ?_
 rintro e' w3 ⟨rfl,hd⟩
 go_wp2
 go_ret
 exact ⟨rfl,(H.call hd).b⟩
theorem rbest_calls {l:List S63} {u:S63} (hu:bestOf l=u) (hne:l≠[]) (hl:l.length≤1000) (he:∀ v,v∈l→v.f3.length≤1000) {A:Option Addr} {c:Nat} {w:World} (hA:Kd.C k63 w A l.length l) :
  Calls Tryz.prog 76 #[.slice A l.length c] w fun e w'=>∃ v3,e=.returned (.tuple #[.agg #[.int .i64 u.f0,.int .i64 u.f1,.int .i64 u.f2,v3],.bool true])∧Kd.R Kd.string 9 w' w.heap.size (fun _=>True) v3 u.f3∧Below w.heap.size w w':=by
 have hu63:=Tryz.underlying63
 have hu24:=Tryz.underlying24
 have hu22:=Tryz.underlying22
 have hn0:((l.length:Int)==0)=false:=by cases l with | nil=>exact absurd rfl hne | cons v r=>simp;omega
 have H:=rd1 w #[.int .i64 0,.int .i64 0,.int .i64 0,.slice none 0 0] 63
 go_enter Tryz.func76,Tryz.ntmps76
 go_upto_region 1 with (fail)
 refine H.gen ?_;clear H;intro V H
 go_wp2_with (fail)
 have hbi:∃ z:S63,l[0]?=some z:=⟨_,List.getElem?_eq_getElem (List.length_pos_iff.2 hne)⟩
 obtain ⟨z,hz⟩:=hbi
 have hbo:bestOf l=quorum_Best.best l.tail z:=by cases l with | nil=>exact absurd rfl hne | cons v r=>cases hz;rfl
 go_loopg [4,5] (l.length - 1) (fun kq s4 s5 w'=>∃ b i:Nat,s4=.int .i64 (b:Int)∧s5=.int .i64 (i:Int)∧Aside0 (kq=l.length - i∧1≤i∧i≤l.length∧l[b]?=some (quorum_Best.best (l.tail.take (i - 1)) z))∧H.at w')
 case atStart=>exact ⟨0,1,rfl,rfl,⟨rfl,Nat.le_refl _,List.length_pos_iff.2 hne,by simpa [quorum_Best.best] using hz⟩,H⟩
 case round =>
  obtain ⟨b,i,rfl,rfl,hi,H⟩:=hrel
  replace H:Rd _ _ _ _ _:=H
  by_cases hlt:i < l.length
  ·have hb1:decide ((i:Int) < (l.length:Int))=true:=decide_eq_true (by omega)
   have hbl:b < l.length:=by have:=hi.out.2.2.2;exact (List.getElem?_eq_some_iff.1 this).1
   obtain ⟨ad,A3,c3,rfl,ra,la,-⟩:=at4 (Kd.C_below hA H.b) i hlt
   obtain ⟨bd,B3,d3,e,rb,lb,-⟩:=at4 (Kd.C_below hA H.b) b hbl
   cases e
   have hbv:l[b]=quorum_Best.best (l.tail.take (i - 1)) z:=by have:=hi.out.2.2.2;rw [List.getElem?_eq_getElem hbl] at this;exact Option.some.inj this
   have hiv:quorum_Best.best (l.tail.take (i+1 - 1)) z=if quorum_Best.better l[i] l[b] then l[i] else l[b]:=by
    rw [hbv,← quorum_Best.best_append]
    congr 1
    rw [show i+1 - 1=(i - 1)+1 by have:=hi.out;omega,List.take_succ_eq_append_getElem (by simp;have:=hi.out;omega)]
    simp [show i - 1+1=i by have:=hi.out;omega]
   have hsi:l[i]?=some l[i]:=List.getElem?_eq_getElem hlt
   have hsb:l[b]?=some l[b]:=List.getElem?_eq_getElem hbl
   generalize l[i]=v at ra la hiv hsi
   generalize l[b]=y at rb lb hiv hsb
   have hiv:=Aside0.mk hiv
   have p1':=eq_true (show (0:Int)≤(i:Int) by omega)
   have q1':=eq_true (show (i:Int) < (l.length:Int) by omega)
   have p2':=eq_true (show (0:Int)≤(b:Int) by omega)
   have q2':=eq_true (show (b:Int) < (l.length:Int) by omega)
   clear hbv
   go_upto_region 7 with (fail)
   go_cut [54] (fun s wx=>s=.bool (quorum_Best.better v y)∧H.at wx)
   case first =>
    have K:=H.drew
    have h3:decide (y.f1 < v.f1)=true∨(decide (y.f1 < v.f1)=false∧(v.f1==y.f1)=false)∨(decide (y.f1 < v.f1)=false∧(v.f1==y.f1)=true):=by cases decide (y.f1 < v.f1)<;>cases (v.f1==y.f1)<;>simp
    rcases h3 with g | ⟨g,g2⟩ | ⟨g,g2⟩
    ·obtain ⟨a0,a1,a2,a3⟩:=ra
     obtain ⟨b0,b1,b2,b3⟩:=rb
     go_region
     go_wp2
     go_meet
     exact ⟨by unfold quorum_Best.better;rw [if_pos (of_decide_eq_true g)],K⟩
    ·obtain ⟨a0,a1,a2,a3⟩:=ra
     obtain ⟨b0,b1,b2,b3⟩:=rb
     go_region
     go_wp2
     go_meet
     exact ⟨by unfold quorum_Best.better;rw [if_neg (of_decide_eq_false g),if_neg (beq_eq_false_iff_ne.1 g2)],K⟩
    ·go_region_held3 (fun W=>R4 (ad.add (i * 4)) v (.slice A3 v.f3.length c3) W∧R4 (ad.add (b * 4)) y (.slice B3 y.f3.length d3) W) (exact ⟨ra,rb⟩) (fail)
     go_wp2
     go_meet
     exact ⟨by unfold quorum_Best.better;rw [if_neg (of_decide_eq_false g),if_pos (beq_iff_eq.1 g2)];simp,K⟩
   obtain ⟨rfl,K⟩:=hcut
   replace K:Rd _ _ _ _ _:=K
   have hw:wrap64 ((i:Int)+1)=((i+1:Nat):Int):=by unfold wrap64;omega
   cases hbe:quorum_Best.better v y
   ·go_wp2
    go_roundg (l.length - (i+1))
    case measure=>have:=hi.out.1;omega
    case rel=>exact ⟨b,i+1,rfl,by first | rfl | rw [hw],⟨rfl,by omega,by omega,by rw [hiv.out,hbe];exact hsb⟩,K⟩
   ·go_wp2
    go_roundg (l.length - (i+1))
    case measure=>have:=hi.out.1;omega
    case rel=>exact ⟨i,i+1,rfl,by first | rfl | rw [hw],⟨rfl,by omega,by omega,by rw [hiv.out,hbe];exact hsi⟩,K⟩
  ·have hb1:decide ((i:Int) < (l.length:Int))=false:=decide_eq_false (by omega)
   have hbl:b < l.length:=by have:=hi.out.2.2.2;exact (List.getElem?_eq_some_iff.1 this).1
   obtain ⟨bd,B3,d3,rfl,rb,lb,hcb⟩:=at4 (Kd.C_below hA H.b) b hbl
   have hbv:l[b]=bestOf l:=by
    have:=hi.out.2.2.2
    rw [List.getElem?_eq_getElem hbl,List.take_of_length_le (by simp;have:=hi.out;omega),← hbo] at this
    exact Option.some.inj this
   have hv:=he _ (List.getElem_mem hbl)
   rw [hbv,hu] at rb lb hcb hv
   have p2':=eq_true (show (0:Int)≤(b:Int) by omega)
   have q2':=eq_true (show (b:Int) < (l.length:Int) by omega)
   obtain ⟨b0,b1,b2,b3⟩:=rb
   clear hbv hbo hi
   go_wp2_with (fail)
   go_at_call 65
   refine (sextonref22_OwnVote.calls _ _ _ B3 d3 u.f3 _ _ _ _ wr hcb lb (SpecT.ownVote_of _ _ _ _ (by omega))).mono ?_
   rintro e w3 ⟨v3,rfl,hr,hb⟩
   obtain ⟨D3,k3,rfl⟩:=Kd.R_slice hr
   have hs:=blk_lt H.x
   replace hr:=Kd.R_bound hr
   replace H:=H.call hb
   obtain ⟨q0,q1,q2,q3⟩:=cells4 H.x
   have fq:=fr_of H.x
   go_wp2
   refine bodyPost_ret (results_ct rfl _ _ _ 63 _ (0,0) _ rfl (putr4 H.x _ _ _ _) Tryz.underlying63 rfl (by kernel_rfl)) rfl ⟨_,rfl,?_,below4 H.b (Nat.le_refl _) _ _ _ _⟩
   refine Kd.R_mono (Kd.R_lower (Kd.R_step hr ?_) (Nat.le_of_lt hs)) (fun _ _=>trivial)
   intro k hk hl
   exact keep4 k (by have:wr.heap.size≤k:=hk.2.1;omega) ..
end Go.Proofs.YtfpfpckocemmdaaGreat.P
