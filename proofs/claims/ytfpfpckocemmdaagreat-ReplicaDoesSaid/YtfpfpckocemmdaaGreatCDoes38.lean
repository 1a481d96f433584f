/- Part 38 of the walk. -/
import Derived.Test.YtfpfpckocemmdaaGreatCDoes37
set_option linter.unusedVariables false
set_option linter.unusedSimpArgs false
set_option maxHeartbeats 8000000
set_option maxRecDepth 100000
namespace Go.Proofs.YtfpfpckocemmdaaGreat.P
open Go.RowKit Go.Proofs.YtfpfpckocemmdaaGreatW.PrintWords Go.Proofs.YtfpfpckocemmdaaGreatW.PrintLast Go.Proofs.YtfpfpckocemmdaaGreatW.PrintMore
section
attribute [local go_sem] max2_int min2_int max_two min_two max_three min_three max_four min_four   -- for this text's walks alone
def sextonlaw24_smudge.l0:Nat→List ByteArray→Int→Option (List ByteArray)
 | 0,_,_=>none
 | k+1,x0,x2=>if x2 < (x0.length:Int) then (if 0≤x2 then (sextonlaw24_smudge.l0 k (x0.set (x2:Int).toNat (⟨#[115,109,117,100,103,101]⟩:ByteArray)) (wrap64 (x2+1))) else (none)) else (some x0)
def sextonlaw24_smudge.f (k:Nat) (l0:List ByteArray):Option (List ByteArray):=sextonlaw24_smudge.l0 k l0 0
theorem sextonlaw24_smudge.calls (k:Nat) (P0_:Nat→Prop) (u9000_:Value) (l0:List ByteArray) (r:List ByteArray) (w0 w:World) (hB:Below w0.heap.size w0 w) (ho0:Kd.R Kd.string 9 w w0.heap.size P0_ u9000_ l0) (h:sextonlaw24_smudge.f k l0=some r) :
  Calls Tryz.prog 16 #[u9000_] w fun e w'=>e=.returned (.tuple #[])∧Kd.R Kd.string 9 w' w0.heap.size (fun k_=>(P0_ k_∨w.heap.size≤k_)) u9000_ r∧Below w0.heap.size w0 w'∧Kept w w' (fun k_=>P0_ k_):=by
 have HO0:=sd (show Kd.R Kd.string 9 w w0.heap.size (fun k_=>(P0_ k_∨w.heap.size≤k_)) u9000_ l0 from Kd.R_mono ho0 (fun k_ hk=>(.inl hk)))
 have HK:=sd (Kept.refl w (fun k_=>P0_ k_))
 have HW0:=sd hB.size
 have HB:=sd hB
 clear hB
 have H:(sextonlaw24_smudge.l0 k l0 0)=some r:=h
 clear h
 have H':=sd H
 clear H
 go_enter Tryz.func16,Tryz.ntmps16
 go_wp2
 go_loopg [2] k (fun kq v2 w'=>∃ (x0_1:List ByteArray) (x2_1:Int),v2=.int .i64 x2_1∧Aside0 (sextonlaw24_smudge.l0 kq x0_1 x2_1=some r)∧Aside0 (kq≤k)∧Aside0 (Kd.R Kd.string 9 w' w0.heap.size (fun k_=>(P0_ k_∨w.heap.size≤k_)) u9000_ x0_1)∧Aside0 (Kept w w' (fun k_=>P0_ k_))∧Aside0 (Below w0.heap.size w0 w'))
 case atStart=>exact ⟨(l0),(0),(by rfl),H',⟨Nat.le_refl _⟩,⟨by (with_reducible repeat (fail));exact HO0.out⟩,⟨by repeat ((with_reducible (exact HK.out)))⟩,⟨HB.out⟩⟩
 case round =>
  clear H'
  obtain ⟨x0_1,x2_1,rfl,HA,HK1,HO_0,HK,HB⟩:=hrel
  cases gk with
  | zero=>exact absurd HA.out (by simp [sextonlaw24_smudge.l0])
  | succ k1 =>
   have H:=HA.out
   clear HA
   simp only [sextonlaw24_smudge.l0] at H
   by_cases c2:x2_1 < (x0_1.length:Int)
   ·rw [if_pos c2] at H
    have c2b0:decide (x2_1 < (x0_1.length:Int))=true:=decide_eq_true c2
    clear c2
    by_cases c3:0≤x2_1
    ·rw [if_pos c3] at H
     have c3b0:decide (0≤x2_1)=true:=decide_eq_true c3
     clear c3
     obtain ⟨y643,hy643⟩:∃ y_:List ByteArray,y_=(x0_1.set (x2_1:Int).toNat (⟨#[115,109,117,100,103,101]⟩:ByteArray)):=⟨_,rfl⟩
     replace H:(sextonlaw24_smudge.l0 k1 y643 (wrap64 (x2_1+1)))=some r:=by (rw [hy643];with_reducible exact H)
     have Ny643:=sd hy643
     clear hy643
     have H':=sd H
     clear H
     obtain ⟨Ao5,co5,eo5⟩:=Kd.R_slice HO_0.out
     subst eo5
     have p4:0≤(x2_1:Int):=of_decide_eq_true (by (with_reducible assumption))
     have q4:(x2_1:Int) < ((x0_1.length:Int):Int):=of_decide_eq_true (by (with_reducible assumption))
     obtain ⟨go4,co4,eo4,gb4,gl4,cl4,HG4⟩:=Kd.R_form HO_0.out (by omega)
     ((cases eo4))
     have GB4:=sd gb4
     have GG4:=sd HG4
     clear gb4 gl4 HG4
     have HMgo4:=sd (show (P0_ go4∨w.heap.size≤go4) from (HO_0.out.1 _ rfl))
     obtain ⟨hx4_0,hf4_0⟩:=Kd.R_celln (⟨#[]⟩:ByteArray) HO_0.out (x2_1:Int) p4 q4
     replace p4:=eq_true p4
     replace q4:=eq_true q4
     have HP6:=Kd.R_putg HO_0.out (x2_1:Int) (⟨#[115,109,117,100,103,101]⟩:ByteArray)
     go_wp2_with (((with_reducible refine gate_store (t:=9) (p:=11) rfl ?_);refine store_event (t:=9) (p:=11) (v:=?vo_w7) (w1:=(wr.setCell ⟨go4,(x2_1:Int).toNat,none⟩ (.string (⟨#[115,109,117,100,103,101]⟩:ByteArray)))) ?hg ?ho ?hn ?hr ?_;(case ho=>rfl);(case hg=>rfl);(case hn=>rfl);(case hr=>(go_simp;done));intro w7 hw;have hg:wr.grownBy w7 (some go4):=(by rw [hw];exact HP6.2);have hp_:Kd.R Kd.string 9 w7 w0.heap.size (fun k_=>(P0_ k_∨w.heap.size≤k_)) (.slice (some ⟨go4,0,none⟩) x0_1.length co5) y643:=(by rw [hw,Ny643.out];exact HP6.1);clear HP6;replace HB:=sd ((by rw [hw];exact below_set (HB.out) GB4.out:Below w0.heap.size w0 w7));replace HK:=sd (Kept.of_grown (S:=(fun k_=>P0_ k_)) hg (by repeat ((with_reducible (exact HK.out)))) (fun k_ e_=>(HO_0.out.1 k_ e_)));replace HO_0:=sd (hp_);clear hg hw hp_))
     go_roundg k1
     case measure=>have:=HK1.out;omega
     case rel=>exact ⟨(y643),(wrap64 (x2_1+1)),(by rfl),H',⟨by have:=HK1.out;omega⟩,⟨by (with_reducible repeat (fail));exact HO_0.out⟩,⟨by repeat ((with_reducible (exact HK.out)))⟩,⟨HB.out⟩⟩
    ·rw [if_neg c3] at H
     exact absurd H (by simp)
   ·rw [if_neg c2] at H
    have c2b0:decide (x2_1 < (x0_1.length:Int))=false:=decide_eq_false c2
    clear c2
    obtain rfl:=Option.some.inj H
    obtain ⟨Ao8,co8,eo8⟩:=Kd.R_slice HO_0.out
    subst eo8
    go_wp2
    (go_end0)
    exact ⟨by rfl,by (with_reducible repeat (fail));exact HO_0.out,HB.out,by repeat ((with_reducible (exact HK.out)))⟩
end
section
attribute [local go_sem] max2_int min2_int max_two min_two max_three min_three max_four min_four   -- for this text's walks alone
def sextonref22_Add.l0:Nat→List (S63)→List (S63)→Int→Int→Int→Int→List ByteArray→Option ((List (S63)))
 | 0,_,_,_,_,_,_,_=>none
 | k+1,x0,x5,x6,x501000,x501001,x501002,x501003=>if x6 < (x0.length:Int) then (if 0≤x6 then (if ((rd_T63 x0 x6).f0)=x501000 then (sextonref22_Add.l0 k x0 x5 (wrap64 (x6+1)) x501000 x501001 x501002 x501003) else ((sextonref22_OwnVote.f ((rd_T63 x0 x6).f0) ((rd_T63 x0 x6).f1) ((rd_T63 x0 x6).f2) ((rd_T63 x0 x6).f3)).bind fun bt503=>(if x5.length < 2932031007402 then (sextonref22_Add.l0 k x0 (x5++[(⟨bt503.1,bt503.2.1,bt503.2.2.1,bt503.2.2.2⟩:S63)]) (wrap64 (x6+1)) x501000 x501001 x501002 x501003) else (none)))) else (none)) else ((sextonref22_OwnVote.f x501000 x501001 x501002 x501003).bind fun bt513=>(if x5.length < 2932031007402 then (some (x5++[(⟨bt513.1,bt513.2.1,bt513.2.2.1,bt513.2.2.2⟩:S63)])) else (none)))
def sextonref22_Add.f (k:Nat) (l0:List (S63)) (a1_0:Int) (a1_1:Int) (a1_2:Int) (l1_3:List ByteArray):Option ((List (S63))):=sextonref22_Add.l0 k l0 ([]:List (S63)) 0 a1_0 a1_1 a1_2 l1_3
end
end Go.Proofs.YtfpfpckocemmdaaGreat.P
namespace Go.Proofs.YtfpfpckocemmdaaGreat.SpecT
open Go.RowKit Go.Proofs.YtfpfpckocemmdaaGreatW.PrintWords Go.Proofs.YtfpfpckocemmdaaGreatW.PrintLast Go.Proofs.YtfpfpckocemmdaaGreatW.PrintMore Go.Proofs.YtfpfpckocemmdaaGreat.P
theorem wrap_nat (i:Nat) (h:i < 9223372036854775807):wrap64 ((i:Int)+1)=((i+1:Nat):Int):=by unfold wrap64;omega
theorem rd29_nat (l:List S63) (i:Nat) (h:i < l.length):rd_T63 l (i:Int)=l[i]:=by
 unfold rd_T63
 simp [List.getD_eq_getElem?_getD,List.getElem?_eq_getElem h]
theorem rdS_nat (l:List ByteArray) (i:Nat) (h:i < l.length):rdOf ByteArray.empty l (i:Int)=l[i]:=by
 unfold rdOf
 simp [List.getD_eq_getElem?_getD,List.getElem?_eq_getElem h]
theorem short_loop (a:List ByteArray) (hm:a.length≤9223372036854775807) (d:Nat):∀ (k i:Nat),a.length - i=d→i≤a.length→d < k→sextonref01_Short.l0 k a (i:Int)=some ((a.drop i).all fun s=>decide ((s.size:Int)≤300)):=by
 induction d with
 | zero =>
  intro k i hd hi hk
  obtain ⟨k,rfl⟩:∃ m,k=m+1:=⟨k - 1,by omega⟩
  simp only [sextonref01_Short.l0]
  rw [if_neg (by omega),List.drop_eq_nil_of_le (by omega)]
  rfl
 | succ d ih =>
  intro k i hd hi hk
  obtain ⟨k,rfl⟩:∃ m,k=m+1:=⟨k - 1,by omega⟩
  have hi':i < a.length:=by omega
  simp only [sextonref01_Short.l0]
  rw [if_pos (by omega),if_pos (by omega),rdS_nat a i hi',wrap_nat i (by omega),ih k (i+1) (by omega) (by omega) (by omega),List.drop_eq_getElem_cons hi',List.all_cons]
  by_cases h:(a[i].size:Int) > 300
  ·rw [if_pos h,decide_eq_false (by omega)];rfl
  ·rw [if_neg h,decide_eq_true (by omega)];rfl
theorem short_of (a:List ByteArray) (hm:a.length≤9223372036854775807) (k:Nat) (hk:a.length < k):sextonref01_Short.f k a=some (a.all fun s=>decide ((s.size:Int)≤300)):=by
 simp only [sextonref01_Short.f]
 exact short_loop a hm a.length k 0 (by omega) (by omega) hk
def bigV (v:S63):Bool:=!(v.f3.all fun s=>decide ((s.size:Int)≤300)) || decide ((v.f3.length:Int) > 70)
def bigVs (a:List S63):Bool:=if (a.length:Int)≤30 then a.any bigV else true
def atLeast (l:List Int) (a:Int):Nat:=l.countP (fun b=>decide (a≤b))
def topOf (m:Nat) (all:List Int) (l:List Int) (b:Int):Int:=l.foldl (fun b a=>if m≤atLeast all a then max b a else b) b
theorem topOf_ge (m:Nat) (all:List Int):∀ (l:List Int) (b:Int),b≤topOf m all l b:=by
 intro l
 induction l with
 | nil=>intro b;exact Int.le_refl _
 | cons a l ih =>
  intro b
  show b≤topOf m all l (if m≤atLeast all a then max b a else b)
  refine Int.le_trans ?_ (ih _)
  split<;>omega
theorem topOf_mem (m:Nat) (all:List Int):∀ (l:List Int) (b a:Int),a∈l→m≤atLeast all a→a≤topOf m all l b:=by
 intro l
 induction l with
 | nil=>intro b a h;cases h
 | cons c l ih =>
  intro b a h hm
  show a≤topOf m all l (if m≤atLeast all c then max b c else b)
  rcases List.mem_cons.1 h with rfl | h
  ·rw [if_pos hm]
   exact Int.le_trans (by omega) (topOf_ge m all l _)
  ·exact ih _ a h hm
theorem topOf_le (m:Nat) (all:List Int) (B:Int):∀ (l:List Int) (b:Int),b≤B→(∀ a,a∈l→m≤atLeast all a→a≤B)→topOf m all l b≤B:=by
 intro l
 induction l with
 | nil=>intro b h _;exact h
 | cons c l ih =>
  intro b h hl
  show topOf m all l (if m≤atLeast all c then max b c else b)≤B
  refine ih _ ?_ (fun a ha=>hl a (List.mem_cons_of_mem _ ha))
  split
  ·rename_i hm
   have:=hl c List.mem_cons_self hm
   omega
  ·exact h
theorem atLeast_perm {l s:List Int} (h:s.Perm l) (a:Int):atLeast s a=atLeast l a:=h.countP_eq _
theorem sorted_le {s:List Int} (hs:s.Pairwise (·≤·)) {i j:Nat} (hij:i≤j) (hj:j < s.length):s[i]'(by omega)≤s[j]:=by
 rcases Nat.lt_or_ge i j with h | h
 ·exact List.pairwise_iff_getElem.1 hs i j (by omega) hj h
 ·have:i=j:=by omega
  subst this
  exact Int.le_refl _
theorem atLeast_drop {s:List Int} (hs:s.Pairwise (·≤·)) (i:Nat) (hi:i < s.length):s.length - i≤atLeast s s[i]:=by
 have h1:atLeast (s.drop i) s[i]=(s.drop i).length:=by
  unfold atLeast
  rw [List.countP_eq_length]
  intro a ha
  obtain ⟨k,hk,rfl⟩:=List.getElem_of_mem ha
  rw [List.length_drop] at hk
  rw [List.getElem_drop]
  exact decide_eq_true (sorted_le hs (by omega) (by omega))
 have h2:atLeast s s[i]=atLeast (s.take i) s[i]+atLeast (s.drop i) s[i]:=by
  have h:=List.countP_append (p:=fun b=>decide (s[i]≤b)) (l₁:=s.take i) (l₂:=s.drop i)
  rw [List.take_append_drop] at h
  exact h
 rw [h2,h1,List.length_drop]
 omega
theorem atLeast_above {s:List Int} (hs:s.Pairwise (·≤·)) (i:Nat) (hi:i < s.length) (a:Int) (ha:s[i] < a):atLeast s a≤s.length - (i+1):=by
 have h2:atLeast s a=atLeast (s.take (i+1)) a+atLeast (s.drop (i+1)) a:=by
  have h:=List.countP_append (p:=fun b=>decide (a≤b)) (l₁:=s.take (i+1)) (l₂:=s.drop (i+1))
  rw [List.take_append_drop] at h
  exact h
 have h1:atLeast (s.take (i+1)) a=0:=by
  unfold atLeast
  rw [List.countP_eq_zero]
  intro b hb
  obtain ⟨k,hk,rfl⟩:=List.getElem_of_mem hb
  rw [List.length_take] at hk
  rw [List.getElem_take]
  have:=sorted_le hs (show k≤i by omega) hi
  simp
  omega
 have h3:atLeast (s.drop (i+1)) a≤(s.drop (i+1)).length:=List.countP_le_length
 rw [List.length_drop] at h3
 omega
theorem top_sorted (l s:List Int) (hp:s.Perm l) (hs:s.Pairwise (·≤·)) (hne:l.length≠0):topOf (l.length / 2+1) l l 0=max (s.getD (l.length - (l.length / 2+1)) 0) 0:=by
 have hl:=hp.length_eq
 have hi:l.length - (l.length / 2+1) < s.length:=by omega
 have hg:s.getD (l.length - (l.length / 2+1)) 0=s[l.length - (l.length / 2+1)]:=by
  rw [List.getD_eq_getElem?_getD,List.getElem?_eq_getElem hi];rfl
 rw [hg]
 apply Int.le_antisymm
 ·refine topOf_le _ _ _ _ _ (by omega) (fun a ha hm=>?_)
  by_cases hlt:s[l.length - (l.length / 2+1)] < a
  ·have h1:=atLeast_above hs _ hi a hlt
   rw [atLeast_perm hp] at h1
   omega
  ·omega
 ·have h1:=atLeast_drop hs _ hi
  rw [atLeast_perm hp] at h1
  have h2:=topOf_mem (l.length / 2+1) l l 0 s[l.length - (l.length / 2+1)] (hp.mem_iff.1 (List.getElem_mem hi)) (by omega)
  have h3:=topOf_ge (l.length / 2+1) l l 0
  omega
def newOnes (l:List Int) (i:Nat):Nat:=((List.range i).filter (fun j=>(l.take j).all (fun a=>decide (a≠l.getD j 0)))).length
def seenOf (l:List Int):List Int:=l.foldl (fun a v=>if a.contains v then a else v::a) []
theorem seenOf_snoc (l:List Int) (v:Int):seenOf (l++[v])=if (seenOf l).contains v then seenOf l else v::seenOf l:=by unfold seenOf;rw [List.foldl_append];rfl
theorem seen_mem (l:List Int) (a:Int):a∈seenOf l↔a∈l:=by
 have h:∀ (l acc:List Int),a∈l.foldl (fun a v=>if a.contains v then a else v::a) acc↔a∈acc∨a∈l:=by
  intro l
  induction l with
  | nil=>intro acc;simp
  | cons v l ih =>
   intro acc
   rw [List.foldl_cons,ih]
   split
   ·rename_i hc
    have hc:=List.contains_iff_mem.1 hc
    simp only [List.mem_cons]
    constructor
    ·rintro (h | h)
     ·exact .inl h
     ·exact .inr (.inr h)
    ·rintro (h | rfl | h)
     ·exact .inl h
     ·exact .inl hc
     ·exact .inr h
   ·simp only [List.mem_cons]
    constructor
    ·rintro ((rfl | h) | h)
     ·exact .inr (.inl rfl)
     ·exact .inl h
     ·exact .inr (.inr h)
    ·rintro (h | rfl | h)
     ·exact .inl (.inr h)
     ·exact .inl (.inl rfl)
     ·exact .inr h
 have:=h l []
 simpa [seenOf] using this
theorem newOnes_succ (l:List Int) (i:Nat) (hi:i < l.length):newOnes l (i+1)=newOnes l i+(if (l.take i).all (fun a=>decide (a≠l[i])) then 1 else 0):=by
 unfold newOnes
 rw [List.range_succ,List.filter_append,List.length_append]
 have hg:l.getD i 0=l[i]:=by rw [List.getD_eq_getElem?_getD,List.getElem?_eq_getElem hi];rfl
 congr 1
 rw [List.filter_cons,hg]
 split<;>simp
theorem newOnes_seen (l:List Int):∀ i,i≤l.length→newOnes l i=(seenOf (l.take i)).length:=by
 intro i
 induction i with
 | zero=>intro _;rfl
 | succ i ih =>
  intro hi
  have hi':i < l.length:=by omega
  rw [newOnes_succ l i hi',ih (by omega),List.take_succ_eq_append_getElem hi',seenOf_snoc]
  by_cases hm:l[i]∈l.take i
  ·have h1:(seenOf (l.take i)).contains l[i]=true:=List.contains_iff_mem.2 ((seen_mem _ _).2 hm)
   have h2:¬ (l.take i).all (fun a=>decide (a≠l[i]))=true:=by
    intro h
    have:=List.all_eq_true.1 h _ hm
    simp at this
   rw [if_pos h1,if_neg h2];rfl
  ·have h1:¬ (seenOf (l.take i)).contains l[i]=true:=fun h=>hm ((seen_mem _ _).1 (List.contains_iff_mem.1 h))
   have h2:(l.take i).all (fun a=>decide (a≠l[i]))=true:=by
    rw [List.all_eq_true]
    intro a ha
    have:a≠l[i]:=fun e=>hm (e ▸ ha)
    simpa using this
   rw [if_neg h1,if_pos h2];rfl
theorem newOnes_all (l:List Int):newOnes l l.length=(seenOf l).length:=by
 have:=newOnes_seen l l.length (Nat.le_refl _)
 rwa [List.take_length] at this
theorem ownTexts_of (l:List ByteArray) (h:l.length < 8796093022208):sextonref01_Own.f l=some l:=by
 unfold sextonref01_Own.f
 rw [if_pos (by simp;omega)]
 rfl
theorem ownVote_of (a b c:Int) (l:List ByteArray) (h:l.length < 8796093022208):sextonref22_OwnVote.f a b c l=some (a,b,c,l):=by
 unfold sextonref22_OwnVote.f
 rw [ownTexts_of l h]
 rfl
theorem own_loop (l:List S63) (hm:l.length≤1000) (hv:∀ v,v∈l→v.f3.length≤1000) (d:Nat):∀ (k i:Nat) (acc:List S63),l.length - i=d→i≤l.length→acc.length≤i→d < k→sextonref22_Own.l0 k l acc (i:Int)=some (acc++l.drop i):=by
 induction d with
 | zero =>
  intro k i acc hd hi ha hk
  obtain ⟨k,rfl⟩:∃ m,k=m+1:=⟨k - 1,by omega⟩
  simp only [sextonref22_Own.l0]
  rw [if_neg (by omega),List.drop_eq_nil_of_le (by omega),List.append_nil]
 | succ d ih =>
  intro k i acc hd hi ha hk
  obtain ⟨k,rfl⟩:∃ m,k=m+1:=⟨k - 1,by omega⟩
  have hi':i < l.length:=by omega
  have hl:=hv _ (List.getElem_mem hi')
  simp only [sextonref22_Own.l0]
  rw [if_pos (by omega),if_pos (by omega),rd29_nat l i hi',ownVote_of _ _ _ _ (by omega)]
  rw [Option.bind_some]
  dsimp only
  rw [if_pos (by omega),wrap_nat i (by omega),ih k (i+1) _ (by omega) (by omega) (by simp;omega) (by omega),List.drop_eq_getElem_cons hi',List.append_assoc]
  rfl
theorem own_of (l:List S63) (hm:l.length≤1000) (hv:∀ v,v∈l→v.f3.length≤1000) (k:Nat) (hk:l.length < k):sextonref22_Own.f k l=some l:=by
 simp only [sextonref22_Own.f]
 have:=own_loop l hm hv l.length k 0 [] (by omega) (by omega) (by simp) hk
 simpa using this
def addTo (l:List S63) (v:S63):List S63:=l.filter (fun y=>y.f0≠v.f0)++[v]
theorem smudge_loop (d:Nat):∀ (k i:Nat) (l:List ByteArray),l.length≤1000→l.length - i=d→i≤l.length→d < k→∃ r,sextonlaw24_smudge.l0 k l (i:Int)=some r∧r.length=l.length:=by
 induction d with
 | zero =>
  intro k i l hm hd hi hk
  obtain ⟨k,rfl⟩:∃ m,k=m+1:=⟨k - 1,by omega⟩
  simp only [sextonlaw24_smudge.l0]
  rw [if_neg (by omega)]
  exact ⟨l,rfl,rfl⟩
 | succ d ih =>
  intro k i l hm hd hi hk
  obtain ⟨k,rfl⟩:∃ m,k=m+1:=⟨k - 1,by omega⟩
  simp only [sextonlaw24_smudge.l0]
  rw [if_pos (by omega),if_pos (by omega),wrap_nat i (by omega)]
  obtain ⟨r,h1,h2⟩:=ih k (i+1) (l.set (i:Int).toNat ⟨#[115,109,117,100,103,101]⟩) (by rw [List.length_set];exact hm) (by rw [List.length_set];omega) (by rw [List.length_set];omega) (by omega)
  exact ⟨r,h1,by rw [h2,List.length_set]⟩
theorem smudge_of (l:List ByteArray) (hm:l.length≤1000) (k:Nat) (hk:l.length < k):∃ r,sextonlaw24_smudge.f k l=some r∧r.length=l.length:=smudge_loop l.length k 0 l hm (by omega) (by omega) hk
theorem maj_of (n:Int) (h1:1≤n) (h2:n≤9223372036854775807):sextonref22_Majority.f n=some (n / 2+1):=by
 unfold sextonref22_Majority.f
 rw [if_neg (by omega)]
 congr 1
 rw [Int.tdiv_eq_ediv_of_nonneg (by omega)]
 unfold wrap64
 omega
theorem rdI_nat (l:List Int) (i:Nat) (h:i < l.length):rd l (i:Int)=l[i]:=by
 unfold rd
 simp [List.getD_eq_getElem?_getD,List.getElem?_eq_getElem h]
theorem commit_inner (l:List Int) (hm:l.length≤1000) (b:Int) (i:Nat) (hi:i < l.length) (d:Nat):∀ (k j many:Nat),l.length - j=d→j≤l.length→many≤j →
  sextonref22_Commit.l1 (k+d+1) l b (i:Int) (many:Int) (j:Int)=sextonref22_Commit.l0 k l (if l.length / 2+1≤many+atLeast (l.drop j) l[i] then max b l[i] else b) ((i+1:Nat):Int):=by
 induction d with
 | zero =>
  intro k j many hd hj hmj
  have hmaj:sextonref22_Majority.f (l.length:Int)=some ((l.length:Int) / 2+1):=maj_of _ (by omega) (by omega)
  simp only [sextonref22_Commit.l1]
  rw [if_neg (by omega),hmaj,Option.bind_some,List.drop_eq_nil_of_le (by omega)]
  have e:atLeast ([]:List Int) l[i]=0:=rfl
  rw [e]
  by_cases h:(many:Int)≥(l.length:Int) / 2+1
  ·rw [if_pos h,if_pos (by omega),if_pos (by omega),rdI_nat l i hi,wrap_nat i (by omega),if_pos (show l.length / 2+1≤many+0 by omega)]
   have:mx b l[i]=max b l[i]:=by unfold mx;omega
   rw [this]
  ·rw [if_neg h,wrap_nat i (by omega),if_neg (show ¬ l.length / 2+1≤many+0 by omega)]
 | succ d ih =>
  intro k j many hd hj hmj
  have hj':j < l.length:=by omega
  have hk:k+(d+1)+1=(k+d+1)+1:=by omega
  rw [hk]
  have ih1:=ih k (j+1) (many+1) (by omega) (by omega) (by omega)
  have ih2:=ih k (j+1) many (by omega) (by omega) (by omega)
  generalize k+d+1=F at ih1 ih2 ⊢
  simp only [sextonref22_Commit.l1]
  rw [if_pos (by omega),if_pos (by omega),if_pos (by omega),if_pos (by omega),rdI_nat l j hj',rdI_nat l i hi,wrap_nat j (by omega),wrap_nat many (by omega),List.drop_eq_getElem_cons hj']
  have e:atLeast (l[j]::l.drop (j+1)) l[i]=(if l[i]≤l[j] then 1 else 0)+atLeast (l.drop (j+1)) l[i]:=by
   unfold atLeast
   rw [List.countP_cons]
   by_cases h:l[i]≤l[j]
   ·simp [h];omega
   ·simp [h]
  rw [e]
  by_cases h:l[j]≥l[i]
  ·rw [if_pos h,if_pos (show l[i]≤l[j] from h),ih1]
   have:many+1+atLeast (l.drop (j+1)) l[i]=many+(1+atLeast (l.drop (j+1)) l[i]):=by omega
   rw [this]
  ·rw [if_neg h,if_neg (show ¬ l[i]≤l[j] from h),ih2,Nat.zero_add]
theorem commit_outer (l:List Int) (hm:l.length≤1000) (d:Nat):∀ (k i:Nat) (b:Int),l.length - i=d→i≤l.length →
  sextonref22_Commit.l0 (k+d * (l.length+2)+1) l b (i:Int)=some (topOf (l.length / 2+1) l (l.drop i) b):=by
 induction d with
 | zero =>
  intro k i b hd hi
  simp only [sextonref22_Commit.l0]
  rw [if_neg (by omega),List.drop_eq_nil_of_le (by omega)]
  rfl
 | succ d ih =>
  intro k i b hd hi
  have hi':i < l.length:=by omega
  have hk:k+(d+1) * (l.length+2)+1=((k+d * (l.length+2)+1)+l.length+1)+1:=by rw [Nat.add_mul];omega
  rw [hk]
  have h:=commit_inner l hm b i hi' l.length (k+d * (l.length+2)+1) 0 0 (by omega) (by omega) (by omega)
  have h0:((0:Nat):Int)=0:=rfl
  rw [h0] at h
  generalize (k+d * (l.length+2)+1)+l.length+1=F at h ⊢
  simp only [sextonref22_Commit.l0]
  rw [if_pos (by omega),h,ih k (i+1) _ (by omega) (by omega),List.drop_eq_getElem_cons hi',List.drop_zero,Nat.zero_add]
  rfl
theorem commit_both (l:List Int) (hm:l.length≤1000):∃ r,quorum_Commit.f l=some r∧∃ k0,∀ k,k0≤k→sextonref22_Commit.f k l=some r:=by
 have hs:∃ k0,∀ k,k0≤k→sextonref22_Commit.f k l=some (topOf (l.length / 2+1) l l 0):=by
  refine ⟨l.length * (l.length+2)+1,fun k hk=>?_⟩
  have h:=commit_outer l hm l.length (k - (l.length * (l.length+2)+1)) 0 0 (by omega) (by omega)
  have e:k - (l.length * (l.length+2)+1)+l.length * (l.length+2)+1=k:=by omega
  rw [e,List.drop_zero] at h
  exact h
 refine ⟨_,?_,hs⟩
 unfold quorum_Commit.f
 by_cases h0:l.length=0
 ·rw [if_pos h0]
  have:l=[]:=List.length_eq_zero_iff.1 h0
  subst this
  rfl
 ·rw [if_neg h0,if_pos (by omega),top_sorted l (quorum_Commit.sorted l) (quorum_Commit.sorted_perm l) (quorum_Commit.sorted_sorted l) h0]
def unlike (l:List S63) (i:Nat) (hi:i < l.length) (j:Nat):Bool:=((l.take i).drop j).all (fun v=>decide (v.f0≠l[i].f0))
theorem enough_inner (l:List S63) (hm:l.length≤1000) (n:Int) (many:Nat) (i:Nat) (hi:i < l.length) (hmi:many≤i) (d:Nat):∀ (k j:Nat) (first:Bool),i - j=d→j≤i →
  sextonref22_Enough.l1 (k+d+1) l n (many:Int) (i:Int) first (j:Int)=sextonref22_Enough.l0 k l n (((if (first && unlike l i hi j)=true then many+1 else many):Nat):Int) ((i+1:Nat):Int):=by
 induction d with
 | zero =>
  intro k j first hd hj
  have hji:j=i:=by omega
  subst hji
  simp only [sextonref22_Enough.l1]
  have e:unlike l j hi j=true:=by unfold unlike;rw [List.drop_eq_nil_of_le (by rw [List.length_take];omega)];rfl
  rw [if_neg (by omega),wrap_nat j (by omega),wrap_nat many (by omega),e]
  cases first<;>simp
 | succ d ih =>
  intro k j first hd hj
  have hj':j < i:=by omega
  have hjl:j < l.length:=by omega
  have hk:k+(d+1)+1=(k+d+1)+1:=by omega
  rw [hk]
  have ih1:=fun (first:Bool)=>ih k (j+1) first (by omega) (by omega)
  generalize k+d+1=F at ih1 ⊢
  simp only [sextonref22_Enough.l1]
  have e:unlike l i hi j=(decide (l[j].f0≠l[i].f0) && unlike l i hi (j+1)):=by
   unfold unlike
   have hjt:j < (l.take i).length:=by rw [List.length_take];omega
   rw [List.drop_eq_getElem_cons hjt,List.all_cons,List.getElem_take]
  rw [if_pos (by omega),wrap_nat j (by omega),e]
  cases first with
  | true =>
   rw [if_pos rfl,if_pos (by omega),if_pos (by omega),if_pos (by omega),if_pos (by omega),rd29_nat l j hjl,rd29_nat l i hi,ih1]
   have e2:(l[j].f0 != l[i].f0)=decide (l[j].f0≠l[i].f0):=by
    by_cases h:l[j].f0=l[i].f0<;>simp [h]
   rw [e2]
   rfl
  | false =>
   rw [if_neg (by simp),ih1]
   rfl
theorem map_unlike (l:List S63) (i:Nat) (hi:i < l.length):unlike l i hi 0=((l.map (·.f0)).take i).all (fun a=>decide (a≠(l.map (·.f0))[i]'(by rw [List.length_map];exact hi))):=by
 unfold unlike
 rw [List.drop_zero,← List.map_take,List.all_map,List.getElem_map]
 rfl
theorem enough_outer (l:List S63) (hm:l.length≤1000) (n:Int) (h1:1≤n) (h2:n≤9223372036854775807) (d:Nat):∀ (k i:Nat),l.length - i=d→i≤l.length →
  sextonref22_Enough.l0 (k+d * (l.length+2)+1) l n ((newOnes (l.map (·.f0)) i:Nat):Int) (i:Int)=some (decide (n / 2+1≤((newOnes (l.map (·.f0)) l.length:Nat):Int))):=by
 induction d with
 | zero =>
  intro k i hd hi
  have:i=l.length:=by omega
  subst this
  simp only [sextonref22_Enough.l0]
  rw [if_neg (by omega),maj_of n h1 h2]
  rfl
 | succ d ih =>
  intro k i hd hi
  have hi':i < l.length:=by omega
  have hle:newOnes (l.map (·.f0)) i≤i:=by
   unfold newOnes
   exact Nat.le_trans (List.length_filter_le _ _) (by simp)
  have hk:k+(d+1) * (l.length+2)+1=((k+d * (l.length+2)+1+(l.length - i))+i+1)+1:=by rw [Nat.add_mul];omega
  rw [hk]
  have h:=enough_inner l hm n (newOnes (l.map (·.f0)) i) i hi' hle i (k+d * (l.length+2)+1+(l.length - i)) 0 true (by omega) (by omega)
  have h0:((0:Nat):Int)=0:=rfl
  rw [h0] at h
  generalize (k+d * (l.length+2)+1+(l.length - i))+i+1=F at h ⊢
  simp only [sextonref22_Enough.l0]
  rw [if_pos (by omega),h]
  have hs:=newOnes_succ (l.map (·.f0)) i (by rw [List.length_map];exact hi')
  have hc:(if (true && unlike l i hi' 0)=true then newOnes (l.map (·.f0)) i+1 else newOnes (l.map (·.f0)) i)=newOnes (l.map (·.f0)) (i+1):=by
   rw [hs,Bool.true_and,map_unlike]
   split<;>rfl
  rw [hc]
  have e:k+d * (l.length+2)+1+(l.length - i)=(k+(l.length - i))+d * (l.length+2)+1:=by omega
  rw [e]
  exact ih (k+(l.length - i)) (i+1) (by omega) (by omega)
theorem froms_seen (l:List S63):quorum_Enough.froms l=seenOf (l.map (·.f0)):=by
 unfold quorum_Enough.froms seenOf
 rw [List.foldl_map]
theorem enough_both (l:List S63) (hm:l.length≤1000) (n:Int) (h2:n≤9223372036854775807) (hw:∀ v,v∈l→(Lit.int .i64 v.f0).wf=true):∃ r,quorum_Enough.f l n=some r∧∃ k0,∀ k,k0≤k→sextonref22_Enough.f k l n=some r:=by
 by_cases h1:n < 1
 ·refine ⟨false,?_,0,fun k _=>?_⟩
  ·unfold quorum_Enough.f;rw [if_pos h1]
  ·unfold sextonref22_Enough.f;rw [if_pos h1]
 ·refine ⟨decide (n / 2+1≤((quorum_Enough.froms l).length:Int)),?_,l.length * (l.length+2)+1,fun k hk=>?_⟩
  ·unfold quorum_Enough.f
   rw [if_neg h1,if_pos ⟨List.all_eq_true.2 hw,by omega,h2⟩]
  ·unfold sextonref22_Enough.f
   rw [if_neg h1]
   have h:=enough_outer l hm n (by omega) h2 l.length (k - (l.length * (l.length+2)+1)) 0 (by omega) (by omega)
   have e:k - (l.length * (l.length+2)+1)+l.length * (l.length+2)+1=k:=by omega
   rw [e] at h
   have h3:=newOnes_all (l.map (·.f0))
   rw [List.length_map] at h3
   rw [h3,← froms_seen] at h
   exact h
end Go.Proofs.YtfpfpckocemmdaaGreat.SpecT
