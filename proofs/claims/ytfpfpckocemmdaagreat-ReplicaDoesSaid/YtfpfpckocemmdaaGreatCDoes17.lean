/- Part 17 of the walk. -/
import Derived.Test.YtfpfpckocemmdaaGreatCDoes16
set_option linter.unusedVariables false
set_option linter.unusedSimpArgs false
set_option maxHeartbeats 8000000
set_option maxRecDepth 100000
namespace Go.Proofs.YtfpfpckocemmdaaGreat.P
open Go.RowKit Go.Proofs.YtfpfpckocemmdaaGreatW.PrintWords Go.Proofs.YtfpfpckocemmdaaGreatW.PrintLast Go.Proofs.YtfpfpckocemmdaaGreatW.PrintMore
theorem withinB_iff (a m:Int):withinB a m=true↔0≤a∧a≤m:=by simp [withinB]
theorem loggedB_len {l:List ByteArray} {c:Int} (h:loggedB l c=true):l.length≤60∧0≤c∧c≤(l.length:Int)∧l.any longB=false:=by
 unfold loggedB at h
 simp only [Bool.and_eq_true,decide_eq_true_eq,withinB_iff,Bool.not_eq_true'] at h
 exact ⟨by omega,h.2.1.1,h.2.1.2,h.2.2⟩
theorem sizeB_iff (n:Int):sizeB n=true↔n=1∨n=3∨n=5∨n=7:=by
 simp [sizeB,or_assoc]
theorem votesB_all (n view:Int):∀ (l:List S63) (seen:List Int),votesB n view l seen=true→∀ v,v∈l→v.f0∉seen∧0≤v.f0∧v.f0≤n - 1∧0≤v.f1∧v.f1≤view∧loggedB v.f3 v.f2=true:=by
 intro l
 induction l with
 | nil=>intro _ _ v hv;cases hv
 | cons u l ih =>
  intro seen h v hv
  unfold votesB at h
  split at h
  ·cases h
  ·rename_i hc
   simp only [Bool.or_eq_true,Bool.not_eq_true',not_or,Bool.not_eq_true,Bool.not_eq_false] at hc
   obtain ⟨⟨⟨h1,h2⟩,h3⟩,h4⟩:=hc
   rw [withinB_iff] at h2 h3
   rcases List.mem_cons.1 hv with rfl | hv
   ·exact ⟨by intro hm;rw [List.contains_iff_mem.2 hm] at h1;exact Bool.noConfusion h1,h2.1,h2.2,h3.1,h3.2,h4⟩
   ·obtain ⟨k1,k2⟩:=ih _ h v hv
    exact ⟨fun hm=>k1 (List.mem_cons_of_mem _ hm),k2⟩
theorem votesB_nodup (n view:Int):∀ (l:List S63) (seen:List Int),votesB n view l seen=true→(l.map (·.f0)).Nodup:=by
 intro l
 induction l with
 | nil=>intro _ _;simp
 | cons u l ih =>
  intro seen h
  have hall:=votesB_all n view _ _ h
  unfold votesB at h
  split at h
  ·cases h
  ·rw [List.map_cons,List.nodup_cons]
   refine ⟨fun hm=>?_,ih _ h⟩
   obtain ⟨v,hv,e⟩:=List.mem_map.1 hm
   exact (votesB_all n view l _ h v hv).1 (by rw [e];exact List.mem_cons_self)
structure Right (x:Nod):Prop where
 size:x.n=1∨x.n=3∨x.n=5∨x.n=7
 id0:0≤x.id
 id1:x.id < x.n
 view0:0≤x.view
 view1:x.view≤1000000
 last0:0≤x.last
 last1:x.last≤x.view
 works:x.works=true→x.last=x.view
 log:loggedB x.log x.commit=true
 acks:(x.acks.length:Int)=x.n
 each:∀ a,a∈x.acks→0≤a∧a≤(x.log.length:Int)
 count:(x.votes.length:Int)≤x.n
 votes:votesB x.n x.view x.votes []=true
theorem right_of {x:Nod} (h:isB x=true):Right x:=by
 unfold isB frontB viewsB at h
 simp only [Bool.and_eq_true,decide_eq_true_eq,withinB_iff,sizeB_iff,Bool.or_eq_true,Bool.not_eq_true',List.all_eq_true] at h
 obtain ⟨⟨⟨⟨⟨⟨⟨h1,h2⟩,⟨h3,h4⟩,h5⟩,h6⟩,h7⟩,h8⟩,h9⟩,h10⟩:=h
 exact ⟨h1,h2.1,by omega,h3.1,h3.2,h4.1,h4.2,fun hw=>h5.elim (fun h=>by rw [h] at hw;cases hw) id,h6,h7,h9,h8,h10⟩
theorem Right.n7 {x:Nod} (h:Right x):1≤x.n∧x.n≤7:=by have:=h.size;omega
theorem addTo_fresh (l:List S63) (v:S63) (h:v.f0∉l.map (·.f0)):addTo l v=l++[v]:=by
 unfold addTo
 rw [List.filter_eq_self.2 (fun u hu=>by simpa using fun e=>h (List.mem_map.2 ⟨u,hu,e⟩))]
theorem readd_go (l:List S63):∀ (a:List S63),((a++l).map (·.f0)).Nodup→l.foldl addTo a=a++l:=by
 induction l with
 | nil=>intro a _;simp
 | cons v l ih =>
  intro a h
  have hf:v.f0∉a.map (·.f0):=by
   rw [List.map_append,List.nodup_append] at h
   intro hm
   exact h.2.2 _ hm _ (by simp) rfl
  rw [List.foldl_cons,addTo_fresh a v hf,ih (a++[v]) (by simpa using h)]
  simp
theorem readd_self (l:List S63) (h:(l.map (·.f0)).Nodup):readd l=l:=by
 have:=readd_go l [] (by simpa using h)
 simpa [readd] using this
theorem Right.opened {x:Nod} (h:Right x):x.opened={ x with told:=[] }:=by
 unfold Nod.opened
 rw [readd_self _ (votesB_nodup _ _ _ _ h.votes)]
theorem Right.good {x:Nod} (h:Right x):Good x.opened:=by
 rw [h.opened]
 have hl:=(loggedB_len h.log).1
 have h7:=h.n7
 refine ⟨h7.1,by show x.n≤1000;omega,h.id0,h.id1,h.view0,by show x.log.length≤1000;omega,by have:=h.acks;show x.acks.length=x.n.toNat;omega,by have:=h.count;show x.votes.length≤1000;omega,fun v hv=>?_,by show 0≤1000;omega⟩
 have hv2:=votesB_all _ _ _ _ h.votes v hv
 have h3:=(loggedB_len hv2.2.2.2.2.2).1
 exact ⟨hv2.2.1,by omega,by omega⟩
end Go.Proofs.YtfpfpckocemmdaaGreat.P
