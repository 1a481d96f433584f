/- Part 14 of the walk. -/
import Derived.Test.YtfpfpckocemmdaaGreatCDoes13
set_option linter.unusedVariables false
set_option linter.unusedSimpArgs false
set_option maxHeartbeats 8000000
set_option maxRecDepth 100000
namespace Go.Proofs.YtfpfpckocemmdaaGreat.P
open Go.RowKit Go.Proofs.YtfpfpckocemmdaaGreatW.PrintWords Go.Proofs.YtfpfpckocemmdaaGreatW.PrintLast Go.Proofs.YtfpfpckocemmdaaGreatW.PrintMore
def Inv2 (D:DataW Unit) (seen:List Int):Prop:=∀ c:Int,D.atKey (.int .i64 c) (.lit (.bool false))=.lit (.bool (seen.contains c))
theorem inv2_put {w:World} {b n:Nat} {D:DataW Unit} {seen:List Int} (ho:w.ownsMap Tryz.prog 3 (plainElem Tryz.prog 4) b n D) (h:Inv2 D seen) (c:Int):Inv2 (D.put (.int .i64 c) (.lit (.bool true))) (c::seen):=by
 have hk:WideAt.IsKeyLit (.int .i64 c):=trivial
 intro c'
 by_cases he:c'=c
 ·subst he
  rw [Maps.atKey_put_same ho.isMap hk]
  simp
 ·rw [Maps.atKey_put_other (by simpa using he),h c']
  simp [he]
theorem plain_bool {v:Value} {b:Bool} {ps:List MemPlace} (h:plainElem (H:=Unit) Tryz.prog 4 v=some (.lit (.bool b),ps)):v=.bool b:=by
 unfold plainElem at h
 have h4:=Tryz.underlying4
 generalize Tryz.prog.underlying 4=u at h h4
 subst h4
 cases v<;>simp at h
 rw [h.1]
theorem look2 {W:World} {b n:Nat} {D:DataW Unit} {seen:List Int} (ho:W.ownsMap Tryz.prog 3 (plainElem Tryz.prog 4) b n D) (h:Inv2 D seen) (c:Int) (hkey:keyOf Tryz.prog 3 (.int .i64 c)=some (.int .i64 c)) :
  (Instr.lookup 82 (.map (some b)) (.int .i64 c) false).run Tryz.prog W=.ok (.bool (seen.contains c)) W:=by
 obtain ⟨v,ps,hrun,hv⟩:=ho.lookup (Maps.int_keyed Tryz.underlying3) Tryz.underlying82 (z:=.bool false) (by kernel_rfl) (plainElem_bool Tryz.underlying4 false) hkey
 rw [h c] at hv
 rw [hrun,plain_bool hv]
theorem ownsMap_below {w w1:World} {b n:Nat} {D:DataW Unit} (h:w.ownsMap Tryz.prog 3 (plainElem Tryz.prog 4) b n D) (hb:Below w.heap.size w w1):w1.ownsMap Tryz.prog 3 (plainElem Tryz.prog 4) b n D :=
 h.kept (row:=none) ⟨hb.os,hb.tape,hb.output,hb.size,fun k hk _=>hb.block k hk⟩ (by simp)
theorem is_calls (id n view last:Int) (works:Bool) (commit:Int) (log:List ByteArray) (acks:List Int) (votes:List S63) (told:List S28) (A6 A7 A8:Option Addr) (c6 c7 c8:Nat) (w:World) (h6:Kd.C Kd.string w A6 log.length log) (l6:log.length≤c6) (h7:Kd.C (Kd.int .i64) w A7 acks.length acks) (l7:acks.length≤c7) (h8:Kd.C k63 w A8 votes.length votes) (l8:votes.length≤c8)
  (hl:log.length < 4398046511104) (ha:acks.length < 4398046511104) (hvl:votes.length < 4398046511104) (hv:∀ v,v∈votes→v.f3.length < 4398046511104∧(Lit.int .i64 v.f0).wf=true) :
  Calls Tryz.prog 20 #[.agg #[.int .i64 id,.int .i64 n,.int .i64 view,.int .i64 last,.bool works,.int .i64 commit,.slice A6 log.length c6,.slice A7 acks.length c7,.slice A8 votes.length c8]] w fun e w'=>e=.returned (.bool (isB ⟨id,n,view,last,works,commit,log,acks,votes,told⟩))∧Below w.heap.size w w':=by
 have hu26:=Tryz.underlying26
 have hu63:=Tryz.underlying63
 have H6:=sd h6
 have H7:=sd h7
 have H8:=sd h8
 have L6:=sd l6
 have L7:=sd l7
 have L8:=sd l8
 have HL:=sd hl
 have HA:=sd ha
 have HVL:=sd hvl
 have HVV:=sd hv
 have HBX:=sd (x_alloc_new w (.cells #[.int .i64 id,.int .i64 n,.int .i64 view,.int .i64 last,.bool works,.int .i64 commit,.slice A6 log.length c6,.slice A7 acks.length c7,.slice A8 votes.length c8] 26))
 clear h6 h7 h8 l6 l7 l8 hl ha hvl hv
 have hx0:(w.alloc (.cells #[.int .i64 id,.int .i64 n,.int .i64 view,.int .i64 last,.bool works,.int .i64 commit,.slice A6 log.length c6,.slice A7 acks.length c7,.slice A8 votes.length c8] 26)).cell? ⟨w.heap.size,0,none⟩=some (.int .i64 id):=blk_cell HBX.out 0
 have hx1:(w.alloc (.cells #[.int .i64 id,.int .i64 n,.int .i64 view,.int .i64 last,.bool works,.int .i64 commit,.slice A6 log.length c6,.slice A7 acks.length c7,.slice A8 votes.length c8] 26)).cell? ⟨w.heap.size,1,none⟩=some (.int .i64 n):=blk_cell HBX.out 1
 have hx2:(w.alloc (.cells #[.int .i64 id,.int .i64 n,.int .i64 view,.int .i64 last,.bool works,.int .i64 commit,.slice A6 log.length c6,.slice A7 acks.length c7,.slice A8 votes.length c8] 26)).cell? ⟨w.heap.size,2,none⟩=some (.int .i64 view):=blk_cell HBX.out 2
 have hx3:(w.alloc (.cells #[.int .i64 id,.int .i64 n,.int .i64 view,.int .i64 last,.bool works,.int .i64 commit,.slice A6 log.length c6,.slice A7 acks.length c7,.slice A8 votes.length c8] 26)).cell? ⟨w.heap.size,3,none⟩=some (.int .i64 last):=blk_cell HBX.out 3
 have hx4:(w.alloc (.cells #[.int .i64 id,.int .i64 n,.int .i64 view,.int .i64 last,.bool works,.int .i64 commit,.slice A6 log.length c6,.slice A7 acks.length c7,.slice A8 votes.length c8] 26)).cell? ⟨w.heap.size,4,none⟩=some (.bool works):=blk_cell HBX.out 4
 have hx5:(w.alloc (.cells #[.int .i64 id,.int .i64 n,.int .i64 view,.int .i64 last,.bool works,.int .i64 commit,.slice A6 log.length c6,.slice A7 acks.length c7,.slice A8 votes.length c8] 26)).cell? ⟨w.heap.size,5,none⟩=some (.int .i64 commit):=blk_cell HBX.out 5
 have hx6:(w.alloc (.cells #[.int .i64 id,.int .i64 n,.int .i64 view,.int .i64 last,.bool works,.int .i64 commit,.slice A6 log.length c6,.slice A7 acks.length c7,.slice A8 votes.length c8] 26)).cell? ⟨w.heap.size,6,none⟩=some (.slice A6 log.length c6):=blk_cell HBX.out 6
 have hx7:(w.alloc (.cells #[.int .i64 id,.int .i64 n,.int .i64 view,.int .i64 last,.bool works,.int .i64 commit,.slice A6 log.length c6,.slice A7 acks.length c7,.slice A8 votes.length c8] 26)).cell? ⟨w.heap.size,7,none⟩=some (.slice A7 acks.length c7):=blk_cell HBX.out 7
 have hx8:(w.alloc (.cells #[.int .i64 id,.int .i64 n,.int .i64 view,.int .i64 last,.bool works,.int .i64 commit,.slice A6 log.length c6,.slice A7 acks.length c7,.slice A8 votes.length c8] 26)).cell? ⟨w.heap.size,8,none⟩=some (.slice A8 votes.length c8):=blk_cell HBX.out 8
 go_enter Tryz.func20,Tryz.ntmps20
 go_upto_region 1 with fail
 go_cut [3] (fun s3 wx=>s3=.bool (viewsB ⟨id,n,view,last,works,commit,log,acks,votes,told⟩)∧Drawn0 (w.alloc (.cells #[.int .i64 id,.int .i64 n,.int .i64 view,.int .i64 last,.bool works,.int .i64 commit,.slice A6 log.length c6,.slice A7 acks.length c7,.slice A8 votes.length c8] 26)) wx)
 case first =>
  have HVD:=sd (show viewsB ⟨id,n,view,last,works,commit,log,acks,votes,told⟩=(withinB view 1000000 && withinB last view && (!works || decide (last=view))) from rfl)
  cases hb1:withinB view 1000000 with
  | false =>
   have H1:=sd ((within_of view 1000000).trans (by rw [hb1]))
   have HV:=sd (show viewsB ⟨id,n,view,last,works,commit,log,acks,votes,told⟩=false by rw [HVD.out,hb1];rfl)
   clear hb1
   go_wp2_with ((go_at_call 60;with_reducible refine (replica_within.calls view 1000000 false _ H1.out).mono ?_;rintro e w' ⟨rfl,⟨nd,rfl⟩⟩))
   go_meet
   exact ⟨by rw [HV.out],by repeat (first | exact Drawn0.refl _ | apply Drawn0.step)⟩
  | true =>
   have H1:=sd ((within_of view 1000000).trans (by rw [hb1]))
   cases hb2:withinB last view with
   | false =>
    have H2:=sd ((within_of last view).trans (by rw [hb2]))
    have HV:=sd (show viewsB ⟨id,n,view,last,works,commit,log,acks,votes,told⟩=false by rw [HVD.out,hb1,hb2];rfl)
    clear hb1 hb2
    go_wp2_with (first | (go_at_call 60;with_reducible refine (replica_within.calls view 1000000 true _ H1.out).mono ?_;rintro e w' ⟨rfl,⟨nd,rfl⟩⟩) | (go_at_call 60;with_reducible refine (replica_within.calls last view false _ H2.out).mono ?_;rintro e w' ⟨rfl,⟨nd,rfl⟩⟩))
    go_meet
    exact ⟨by rw [HV.out],by repeat (first | exact Drawn0.refl _ | apply Drawn0.step)⟩
   | true =>
    have H2:=sd ((within_of last view).trans (by rw [hb2]))
    cases works with
    | false =>
     have HV:=sd (show viewsB ⟨id,n,view,last,false,commit,log,acks,votes,told⟩=true by rw [HVD.out,hb1,hb2];rfl)
     clear hb1 hb2
     go_wp2_with (first | (go_at_call 60;with_reducible refine (replica_within.calls view 1000000 true _ H1.out).mono ?_;rintro e w' ⟨rfl,⟨nd,rfl⟩⟩) | (go_at_call 60;with_reducible refine (replica_within.calls last view true _ H2.out).mono ?_;rintro e w' ⟨rfl,⟨nd,rfl⟩⟩))
     go_meet
     exact ⟨by rw [HV.out],by repeat (first | exact Drawn0.refl _ | apply Drawn0.step)⟩
    | true =>
     have HV:=sd (show viewsB ⟨id,n,view,last,true,commit,log,acks,votes,told⟩=decide (last=view) by rw [HVD.out,hb1,hb2];simp)
     clear hb1 hb2
     by_cases he:last=view
     ·have e1:(last==view)=true:=beq_iff_eq.mpr he
      have HV:=sd (show viewsB ⟨id,n,view,last,true,commit,log,acks,votes,told⟩=true by rw [HV.out,decide_eq_true he])
      clear he
      go_wp2_with (first | (go_at_call 60;with_reducible refine (replica_within.calls view 1000000 true _ H1.out).mono ?_;rintro e w' ⟨rfl,⟨nd,rfl⟩⟩) | (go_at_call 60;with_reducible refine (replica_within.calls last view true _ H2.out).mono ?_;rintro e w' ⟨rfl,⟨nd,rfl⟩⟩))
      go_meet
      exact ⟨by rw [HV.out],by repeat (first | exact Drawn0.refl _ | apply Drawn0.step)⟩
     ·have e1:(last==view)=false:=beq_eq_false_iff_ne.mpr he
      have HV:=sd (show viewsB ⟨id,n,view,last,true,commit,log,acks,votes,told⟩=false by rw [HV.out,decide_eq_false he])
      clear he
      go_wp2_with (first | (go_at_call 60;with_reducible refine (replica_within.calls view 1000000 true _ H1.out).mono ?_;rintro e w' ⟨rfl,⟨nd,rfl⟩⟩) | (go_at_call 60;with_reducible refine (replica_within.calls last view true _ H2.out).mono ?_;rintro e w' ⟨rfl,⟨nd,rfl⟩⟩))
      go_meet
      exact ⟨by rw [HV.out],by repeat (first | exact Drawn0.refl _ | apply Drawn0.step)⟩
 case rest =>
  obtain ⟨rfl,HDN⟩:=hcut
  obtain ⟨nn,rfl⟩:=HDN.out
  clear HDN
  have HVIEWS:=sd (show viewsB ⟨id,n,view,last,works,commit,log,acks,votes,told⟩=viewsB ⟨id,n,view,last,works,commit,log,acks,votes,told⟩ from rfl)
  have HFR:=sd (show frontB ⟨id,n,view,last,works,commit,log,acks,votes,told⟩=(sizeB n && withinB id (n - 1) && viewsB ⟨id,n,view,last,works,commit,log,acks,votes,told⟩ && loggedB log commit && decide ((acks.length:Int)=n) && decide ((votes.length:Int)≤n)) from rfl)
  have HISD:=sd (show isB ⟨id,n,view,last,works,commit,log,acks,votes,told⟩=(frontB ⟨id,n,view,last,works,commit,log,acks,votes,told⟩ && acks.all (fun a=>withinB a (log.length:Int)) && votesB n view votes []) from rfl)
  clear HVIEWS
  generalize viewsB ⟨id,n,view,last,works,commit,log,acks,votes,told⟩=vb at *
  generalize frontB ⟨id,n,view,last,works,commit,log,acks,votes,told⟩=fr at *
  obtain ⟨k,hk⟩:∃ k,101≤k:=⟨101,Nat.le_refl _⟩
  have HK:=sd hk
  clear hk
  cases hs:sizeB n with
  | false =>
   have HS:=sd ((size_of n).trans (by rw [hs]))
   have HIS:=sd (show isB ⟨id,n,view,last,works,commit,log,acks,votes,told⟩=false by rw [HISD.out,HFR.out,hs];rfl)
   clear hs
   go_wp2_with ((go_at_call 58;with_reducible refine (replica_size.calls n false _ HS.out).mono ?_;rintro e w' ⟨rfl,⟨nd,rfl⟩⟩))
   go_ret
   exact ⟨by rw [HIS.out];rfl,by repeat (first | exact Below.refl _ _ | apply pw_below_drewN | apply below_alloc)⟩
  | true =>
  have HS:=sd ((size_of n).trans (by rw [hs]))
  have hn7:1≤n∧n≤7:=by
   have h:=hs
   unfold sizeB at h
   simp only [Bool.or_eq_true,decide_eq_true_eq] at h
   omega
  have hw1:wrap64 (n - 1)=n - 1:=by unfold wrap64;omega
  have hw2:IntKind.i64.wrap (n - 1)=n - 1:=by rw [IntKind.wrap_i64];omega
  have HN7:=sd hn7
  clear hn7
  cases hi:withinB id (n - 1) with
  | false =>
   have HI:=sd ((within_of id (n - 1)).trans (by rw [hi]))
   have HIS:=sd (show isB ⟨id,n,view,last,works,commit,log,acks,votes,told⟩=false by rw [HISD.out,HFR.out,hs,hi];rfl)
   clear hs hi
   go_wp2_with (first | (go_at_call 58;with_reducible refine (replica_size.calls n true _ HS.out).mono ?_;rintro e w' ⟨rfl,⟨nd,rfl⟩⟩) | (go_at_call 60;with_reducible refine (replica_within.calls id (n - 1) false _ HI.out).mono ?_;rintro e w' ⟨rfl,⟨nd,rfl⟩⟩))
   go_ret
   exact ⟨by rw [HIS.out];rfl,by repeat (first | exact Below.refl _ _ | apply pw_below_drewN | apply below_alloc)⟩
  | true =>
  have HI:=sd ((within_of id (n - 1)).trans (by rw [hi]))
  cases vb with
  | false =>
   have HIS:=sd (show isB ⟨id,n,view,last,works,commit,log,acks,votes,told⟩=false by rw [HISD.out,HFR.out,hs,hi];rfl)
   clear hs hi
   go_wp2_with (first | (go_at_call 58;with_reducible refine (replica_size.calls n true _ HS.out).mono ?_;rintro e w' ⟨rfl,⟨nd,rfl⟩⟩) | (go_at_call 60;with_reducible refine (replica_within.calls id (n - 1) true _ HI.out).mono ?_;rintro e w' ⟨rfl,⟨nd,rfl⟩⟩))
   go_ret
   exact ⟨by rw [HIS.out];rfl,by repeat (first | exact Below.refl _ _ | apply pw_below_drewN | apply below_alloc)⟩
  | true =>
  have HLG:=sd (logged_of k HK.out log commit HL.out)
  cases hg:loggedB log commit with
  | false =>
   rw [hg] at HLG
   have HIS:=sd (show isB ⟨id,n,view,last,works,commit,log,acks,votes,told⟩=false by rw [HISD.out,HFR.out,hs,hi,hg];rfl)
   clear hs hi hg
   go_wp2_with (first | (go_at_call 58;with_reducible refine (replica_size.calls n true _ HS.out).mono ?_;rintro e w' ⟨rfl,⟨nd,rfl⟩⟩) | (go_at_call 60;with_reducible refine (replica_within.calls id (n - 1) true _ HI.out).mono ?_;rintro e w' ⟨rfl,⟨nd,rfl⟩⟩) | (go_at_call 61;refine (replica_logged.calls k A6 c6 log commit false _ (by repeat (first | refine Kd.C_drewN ?_ _ | exact Kd.C_alloc H6.out _)) L6.out HLG.out).mono ?_;rintro e w3 ⟨rfl,hb3⟩;have HB3:=sd ((by repeat (first | exact below_alloc (Below.refl _ _) _ | refine pw_below_drewN ?_ _):Below w.heap.size w _).trans (below_weak hb3 (by simp)));have HBX3:=sd ((hb3.block w.heap.size (by show w.heap.size < (w.alloc (.cells #[.int .i64 id,.int .i64 n,.int .i64 view,.int .i64 last,.bool works,.int .i64 commit,.slice A6 log.length c6,.slice A7 acks.length c7,.slice A8 votes.length c8] 26)).heap.size;simp)).trans HBX.out);have hw0:w3.cell? ⟨w.heap.size,0,none⟩=some (.int .i64 id):=blk_cell HBX3.out 0;have hw1:w3.cell? ⟨w.heap.size,1,none⟩=some (.int .i64 n):=blk_cell HBX3.out 1;have hw2:w3.cell? ⟨w.heap.size,2,none⟩=some (.int .i64 view):=blk_cell HBX3.out 2;have hw3:w3.cell? ⟨w.heap.size,3,none⟩=some (.int .i64 last):=blk_cell HBX3.out 3;have hw4:w3.cell? ⟨w.heap.size,4,none⟩=some (.bool works):=blk_cell HBX3.out 4;have hw5:w3.cell? ⟨w.heap.size,5,none⟩=some (.int .i64 commit):=blk_cell HBX3.out 5;have hw6:w3.cell? ⟨w.heap.size,6,none⟩=some (.slice A6 log.length c6):=blk_cell HBX3.out 6;have hw7:w3.cell? ⟨w.heap.size,7,none⟩=some (.slice A7 acks.length c7):=blk_cell HBX3.out 7;have hw8:w3.cell? ⟨w.heap.size,8,none⟩=some (.slice A8 votes.length c8):=blk_cell HBX3.out 8;clear hb3))
   go_ret
   exact ⟨by rw [HIS.out];rfl,HB3.out⟩
  | true =>
  rw [hg] at HLG
  by_cases hac:(acks.length:Int)=n
  case neg =>
   have e1:((acks.length:Int)==n)=false:=beq_eq_false_iff_ne.mpr hac
   have e2:((acks.length:Int) != n)=true:=bne_iff_ne.mpr hac
   have HIS:=sd (show isB ⟨id,n,view,last,works,commit,log,acks,votes,told⟩=false by rw [HISD.out,HFR.out,hs,hi,hg,decide_eq_false hac];rfl)
   clear hs hi hg hac
   go_wp2_with (first | (go_at_call 58;with_reducible refine (replica_size.calls n true _ HS.out).mono ?_;rintro e w' ⟨rfl,⟨nd,rfl⟩⟩) | (go_at_call 60;with_reducible refine (replica_within.calls id (n - 1) true _ HI.out).mono ?_;rintro e w' ⟨rfl,⟨nd,rfl⟩⟩) | (go_at_call 61;refine (replica_logged.calls k A6 c6 log commit true _ (by repeat (first | refine Kd.C_drewN ?_ _ | exact Kd.C_alloc H6.out _)) L6.out HLG.out).mono ?_;rintro e w3 ⟨rfl,hb3⟩;have HB3:=sd ((by repeat (first | exact below_alloc (Below.refl _ _) _ | refine pw_below_drewN ?_ _):Below w.heap.size w _).trans (below_weak hb3 (by simp)));have HBX3:=sd ((hb3.block w.heap.size (by show w.heap.size < (w.alloc (.cells #[.int .i64 id,.int .i64 n,.int .i64 view,.int .i64 last,.bool works,.int .i64 commit,.slice A6 log.length c6,.slice A7 acks.length c7,.slice A8 votes.length c8] 26)).heap.size;simp)).trans HBX.out);have hw0:w3.cell? ⟨w.heap.size,0,none⟩=some (.int .i64 id):=blk_cell HBX3.out 0;have hw1:w3.cell? ⟨w.heap.size,1,none⟩=some (.int .i64 n):=blk_cell HBX3.out 1;have hw2:w3.cell? ⟨w.heap.size,2,none⟩=some (.int .i64 view):=blk_cell HBX3.out 2;have hw3:w3.cell? ⟨w.heap.size,3,none⟩=some (.int .i64 last):=blk_cell HBX3.out 3;have hw4:w3.cell? ⟨w.heap.size,4,none⟩=some (.bool works):=blk_cell HBX3.out 4;have hw5:w3.cell? ⟨w.heap.size,5,none⟩=some (.int .i64 commit):=blk_cell HBX3.out 5;have hw6:w3.cell? ⟨w.heap.size,6,none⟩=some (.slice A6 log.length c6):=blk_cell HBX3.out 6;have hw7:w3.cell? ⟨w.heap.size,7,none⟩=some (.slice A7 acks.length c7):=blk_cell HBX3.out 7;have hw8:w3.cell? ⟨w.heap.size,8,none⟩=some (.slice A8 votes.length c8):=blk_cell HBX3.out 8;clear hb3))
   go_ret
   exact ⟨by rw [HIS.out];rfl,HB3.out⟩
  case pos =>
  have e1:((acks.length:Int)==n)=true:=beq_iff_eq.mpr hac
  have e2:((acks.length:Int) != n)=false:=bne_eq_false_iff_eq.mpr hac
  by_cases hvo:(votes.length:Int)≤n
  case neg =>
   have e3:decide ((votes.length:Int) > n)=true:=decide_eq_true (by omega)
   have e4:decide (n < (votes.length:Int))=true:=decide_eq_true (by omega)
   have HIS:=sd (show isB ⟨id,n,view,last,works,commit,log,acks,votes,told⟩=false by rw [HISD.out,HFR.out,hs,hi,hg,decide_eq_true hac,decide_eq_false hvo];rfl)
   clear hs hi hg hac hvo
   go_wp2_with (first | (go_at_call 58;with_reducible refine (replica_size.calls n true _ HS.out).mono ?_;rintro e w' ⟨rfl,⟨nd,rfl⟩⟩) | (go_at_call 60;with_reducible refine (replica_within.calls id (n - 1) true _ HI.out).mono ?_;rintro e w' ⟨rfl,⟨nd,rfl⟩⟩) | (go_at_call 61;refine (replica_logged.calls k A6 c6 log commit true _ (by repeat (first | refine Kd.C_drewN ?_ _ | exact Kd.C_alloc H6.out _)) L6.out HLG.out).mono ?_;rintro e w3 ⟨rfl,hb3⟩;have HB3:=sd ((by repeat (first | exact below_alloc (Below.refl _ _) _ | refine pw_below_drewN ?_ _):Below w.heap.size w _).trans (below_weak hb3 (by simp)));have HBX3:=sd ((hb3.block w.heap.size (by show w.heap.size < (w.alloc (.cells #[.int .i64 id,.int .i64 n,.int .i64 view,.int .i64 last,.bool works,.int .i64 commit,.slice A6 log.length c6,.slice A7 acks.length c7,.slice A8 votes.length c8] 26)).heap.size;simp)).trans HBX.out);have hw0:w3.cell? ⟨w.heap.size,0,none⟩=some (.int .i64 id):=blk_cell HBX3.out 0;have hw1:w3.cell? ⟨w.heap.size,1,none⟩=some (.int .i64 n):=blk_cell HBX3.out 1;have hw2:w3.cell? ⟨w.heap.size,2,none⟩=some (.int .i64 view):=blk_cell HBX3.out 2;have hw3:w3.cell? ⟨w.heap.size,3,none⟩=some (.int .i64 last):=blk_cell HBX3.out 3;have hw4:w3.cell? ⟨w.heap.size,4,none⟩=some (.bool works):=blk_cell HBX3.out 4;have hw5:w3.cell? ⟨w.heap.size,5,none⟩=some (.int .i64 commit):=blk_cell HBX3.out 5;have hw6:w3.cell? ⟨w.heap.size,6,none⟩=some (.slice A6 log.length c6):=blk_cell HBX3.out 6;have hw7:w3.cell? ⟨w.heap.size,7,none⟩=some (.slice A7 acks.length c7):=blk_cell HBX3.out 7;have hw8:w3.cell? ⟨w.heap.size,8,none⟩=some (.slice A8 votes.length c8):=blk_cell HBX3.out 8;clear hb3))
   go_ret
   exact ⟨by rw [HIS.out];rfl,HB3.out⟩
  case pos =>
  have e3:decide ((votes.length:Int) > n)=false:=decide_eq_false (by omega)
  have e4:decide (n < (votes.length:Int))=false:=decide_eq_false (by omega)
  have HIS:=sd (show isB ⟨id,n,view,last,works,commit,log,acks,votes,told⟩=(acks.all (fun a=>withinB a (log.length:Int)) && votesB n view votes []) by rw [HISD.out,HFR.out,hs,hi,hg,decide_eq_true hac,decide_eq_true hvo];rfl)
  clear hs hi hg hac hvo HISD HFR
  go_wp2_with (first | (go_at_call 58;with_reducible refine (replica_size.calls n true _ HS.out).mono ?_;rintro e w' ⟨rfl,⟨nd,rfl⟩⟩) | (go_at_call 60;with_reducible refine (replica_within.calls id (n - 1) true _ HI.out).mono ?_;rintro e w' ⟨rfl,⟨nd,rfl⟩⟩) | (go_at_call 61;refine (replica_logged.calls k A6 c6 log commit true _ (by repeat (first | refine Kd.C_drewN ?_ _ | exact Kd.C_alloc H6.out _)) L6.out HLG.out).mono ?_;rintro e w3 ⟨rfl,hb3⟩;have HB3:=sd ((by repeat (first | exact below_alloc (Below.refl _ _) _ | refine pw_below_drewN ?_ _):Below w.heap.size w _).trans (below_weak hb3 (by simp)));have HBX3:=sd ((hb3.block w.heap.size (by show w.heap.size < (w.alloc (.cells #[.int .i64 id,.int .i64 n,.int .i64 view,.int .i64 last,.bool works,.int .i64 commit,.slice A6 log.length c6,.slice A7 acks.length c7,.slice A8 votes.length c8] 26)).heap.size;simp)).trans HBX.out);have hw0:w3.cell? ⟨w.heap.size,0,none⟩=some (.int .i64 id):=blk_cell HBX3.out 0;have hw1:w3.cell? ⟨w.heap.size,1,none⟩=some (.int .i64 n):=blk_cell HBX3.out 1;have hw2:w3.cell? ⟨w.heap.size,2,none⟩=some (.int .i64 view):=blk_cell HBX3.out 2;have hw3:w3.cell? ⟨w.heap.size,3,none⟩=some (.int .i64 last):=blk_cell HBX3.out 3;have hw4:w3.cell? ⟨w.heap.size,4,none⟩=some (.bool works):=blk_cell HBX3.out 4;have hw5:w3.cell? ⟨w.heap.size,5,none⟩=some (.int .i64 commit):=blk_cell HBX3.out 5;have hw6:w3.cell? ⟨w.heap.size,6,none⟩=some (.slice A6 log.length c6):=blk_cell HBX3.out 6;have hw7:w3.cell? ⟨w.heap.size,7,none⟩=some (.slice A7 acks.length c7):=blk_cell HBX3.out 7;have hw8:w3.cell? ⟨w.heap.size,8,none⟩=some (.slice A8 votes.length c8):=blk_cell HBX3.out 8;clear hb3))
  clear hx0 hx1 hx2 hx3 hx4 hx5 hx6 hx7 hx8
  have H73:=sd (Kd.C_below H7.out HB3.out)
  have HAM:=sd (show acks.length≤4398046511104 by have:=HA.out;omega)
  go_loopg [75] acks.length (fun kq v75 w'=>∃ (i:Nat),v75=.int .i64 (i:Int)∧Aside0 (kq=acks.length - i∧i≤acks.length)∧Aside0 ((acks.take i).all (fun a=>withinB a (log.length:Int))=true)∧Drawn0 w3 w')
  case atStart=>exact ⟨0,rfl,⟨by simp⟩,⟨by simp⟩,Drawn0.refl _⟩
  case round =>
   obtain ⟨i,rfl,hi,HALL,⟨m1,rfl⟩⟩:=hrel
   by_cases hlt:i < acks.length
   ·have hb1:decide ((i:Int) < (acks.length:Int))=true:=decide_eq_true (by omega)
    have p1:(0:Int)≤(i:Int):=by omega
    have q1:(i:Int) < (acks.length:Int):=by omega
    obtain ⟨ad,rfl,hc⟩:=Kd.at_int H73.out (i:Int) p1 q1
    simp only [Int.toNat_natCast] at hc
    replace p1:=eq_true p1
    replace q1:=eq_true q1
    have hrd:rd acks (i:Int)=acks[i]:=by simp [rd,List.getD_eq_getElem?_getD,List.getElem?_eq_getElem hlt]
    have HT1:=sd (show acks.take (i+1)=acks.take i++[rd acks (i:Int)] by rw [List.take_succ_eq_append_getElem hlt,hrd])
    have HMEM:=sd (show rd acks (i:Int)∈acks by rw [hrd];exact List.getElem_mem hlt)
    clear hrd
    generalize rd acks (i:Int)=a at *
    cases hb:withinB a (log.length:Int) with
    | true =>
     have HWI:=sd ((within_of a (log.length:Int)).trans (by rw [hb]))
     have HBT:=sd hb
     clear hb
     go_wp2_with ((go_at_call 60;with_reducible refine (replica_within.calls a (log.length:Int) true _ HWI.out).mono ?_;rintro e w' ⟨rfl,⟨nd,rfl⟩⟩))
     go_roundg (acks.length - (i+1))
     case measure=>have:=hi.out.1;omega
     case rel =>
      have hw:wrap64 ((i:Int)+1)=((i+1:Nat):Int):=by have:=HAM.out;unfold wrap64;omega
      refine ⟨i+1,by rw [hw],⟨by have:=hi.out;omega,by omega⟩,⟨?_⟩,by repeat (first | exact Drawn0.refl _ | apply Drawn0.step)⟩
      rw [HT1.out,List.all_append,HALL.out]
      simp [HBT.out]
    | false =>
     have HWI:=sd ((within_of a (log.length:Int)).trans (by rw [hb]))
     have HIS2:=sd (show isB ⟨id,n,view,last,works,commit,log,acks,votes,told⟩=false by
      rw [HIS.out]
      have:acks.all (fun a=>withinB a (log.length:Int))=false:=by
       rw [List.all_eq_false]
       exact ⟨a,HMEM.out,by rw [hb];exact Bool.false_ne_true⟩
      rw [this];rfl)
     clear hb
     go_wp2_with ((go_at_call 60;with_reducible refine (replica_within.calls a (log.length:Int) false _ HWI.out).mono ?_;rintro e w' ⟨rfl,⟨nd,rfl⟩⟩))
     go_ret
     exact ⟨by rw [HIS2.out];rfl,by repeat (first | exact HB3.out | apply pw_below_drewN)⟩
   ·have hb1:decide ((i:Int) < (acks.length:Int))=false:=decide_eq_false (by omega)
    have hie:i=acks.length:=by have:=hi.out;omega
    have HALL2:=sd (show acks.all (fun a=>withinB a (log.length:Int))=true by have h:=HALL.out;rwa [hie,List.take_length] at h)
    have HIS2:=sd (show isB ⟨id,n,view,last,works,commit,log,acks,votes,told⟩=votesB n view votes [] by rw [HIS.out,HALL2.out,Bool.true_and])
    clear hie
    have hmk:∀ W:World,(Instr.makeMap 82 none).run Tryz.prog W=.ok (.map (some W.heap.size)) (W.alloc (.map #[] 0)):=fun _=>rfl
    have HB4:=sd (show Below w.heap.size w (w3.drewN m1) by repeat (first | exact HB3.out | apply pw_below_drewN))
    have HBX4:=sd (show (w3.drewN m1).heap[w.heap.size]?=_ from HBX3.out)
    clear hw0 hw1 hw2 hw3 hw4 hw5 hw6 hw7 hw8
    have hwa:wrap64 (n - 1)=n - 1:=by have:=HN7.out;unfold wrap64;omega
    have hwb:IntKind.i64.wrap (n - 1)=n - 1:=by have:=HN7.out;rw [IntKind.wrap_i64];omega
    generalize w3.drewN m1=w4 at *
    have hq8:(w4.alloc (.map #[] 0)).cell? ⟨w.heap.size,8,none⟩=some (.slice A8 votes.length c8):=blk_cell (blk_alloc HBX4.out _) 8
    have HB5:=sd (below_alloc HB4.out (.map #[] 0))
    have HBX5:=sd (blk_alloc HBX4.out (.map #[] 0))
    have HO5:=sd (World.ownsMap_made (H:=Unit) w4 Tryz.prog 3 (plainElem Tryz.prog 4))
    have HGM:=sd (show w.heap.size≠w4.heap.size by have:=blk_lt HBX4.out;omega)
    have HGM2:=sd (show w.heap.size≤w4.heap.size from HB4.out.size)
    have HVM:=sd (show votes.length≤4398046511104 by have:=HVL.out;omega)
    go_wp2
    generalize hgm:w4.heap.size=gm at *
    clear hgm hq8
    go_loopg [90] votes.length (fun kq v90 w'=>∃ (i:Nat) (D:DataW Unit) (seen:List Int),v90=.int .i64 (i:Int)∧Aside0 (kq=votes.length - i∧i≤votes.length)∧Aside0 (w'.ownsMap Tryz.prog 3 (plainElem Tryz.prog 4) gm i D)∧Aside0 (Inv2 D seen)∧Aside0 (votesB n view votes []=votesB n view (votes.drop i) seen)∧Aside0 (Below w.heap.size w w')∧Aside0 (w'.heap[w.heap.size]?=some (.cells #[.int .i64 id,.int .i64 n,.int .i64 view,.int .i64 last,.bool works,.int .i64 commit,.slice A6 log.length c6,.slice A7 acks.length c7,.slice A8 votes.length c8] 26 (0,0))))
    case atStart=>exact ⟨0,.map [],[],rfl,⟨by simp⟩,HO5,⟨fun c=>rfl⟩,⟨rfl⟩,HB5,HBX5⟩
    case round =>
     obtain ⟨i,D,seen,rfl,hi,HO,HI2,HVB,HB,HBX⟩:=hrel
     by_cases hlt:i < votes.length
     ·have hb1:decide ((i:Int) < (votes.length:Int))=true:=decide_eq_true (by omega)
      have p1:(0:Int)≤(i:Int):=by omega
      have q1:(i:Int) < (votes.length:Int):=by omega
      obtain ⟨ad,A3,c3,rfl,hy0,hy1,hy2,hy3,hly,hiy⟩:=at_T63 (Kd.C_below H8.out HB.out) (i:Int) p1 q1
      simp only [Int.toNat_natCast] at hy0 hy1 hy2 hy3
      have hrd:rd_T63 votes (i:Int)=votes[i]:=by simp [rd_T63,List.getD_eq_getElem?_getD,List.getElem?_eq_getElem hlt]
      have HDROP:=sd (show votes.drop i=rd_T63 votes (i:Int)::votes.drop (i+1) by rw [hrd];exact List.drop_eq_getElem_cons hlt)
      have HVV2:=sd (show (rd_T63 votes (i:Int)).f3.length < 4398046511104∧(Lit.int .i64 (rd_T63 votes (i:Int)).f0).wf=true by rw [hrd];exact HVV.out _ (List.getElem_mem hlt))
      clear hrd
      replace p1:=eq_true p1
      replace q1:=eq_true q1
      generalize rd_T63 votes (i:Int)=v at *
      have HIY:=sd hiy
      have HLY:=sd hly
      have hr1:∀ o,(wr.alloc o).cell? ⟨w.heap.size,1,none⟩=some (.int .i64 n):=fun o=>blk_cell (blk_alloc HBX.out o) 1
      have hr2:∀ o,(wr.alloc o).cell? ⟨w.heap.size,2,none⟩=some (.int .i64 view):=fun o=>blk_cell (blk_alloc HBX.out o) 2
      have hkey:keyOf Tryz.prog 3 (.int .i64 v.f0)=some (.int .i64 v.f0):=Maps.keyOf_int_mk Tryz.underlying3 HVV2.out.2
      have hlook:∀ o,(Instr.lookup 82 (.map (some gm)) (.int .i64 v.f0) false).run Tryz.prog (wr.alloc o)=.ok (.bool (seen.contains v.f0)) (wr.alloc o):=fun o=>look2 (HO.out.alloc o) HI2.out v.f0 hkey
      have HSTEP:=sd (show votesB n view votes []=if seen.contains v.f0 || !withinB v.f0 (n - 1) || !withinB v.f1 view || !loggedB v.f3 v.f2 then false else votesB n view (votes.drop (i+1)) (v.f0::seen) by rw [HVB.out,HDROP.out];rfl)
      clear hiy hly
      cases hsc:seen.contains v.f0 with
      | true =>
       simp only [hsc] at hlook
       have HIS3:=sd (show isB ⟨id,n,view,last,works,commit,log,acks,votes,told⟩=false by rw [HIS2.out,HSTEP.out,hsc];rfl)
       clear hsc
       go_wp2
       go_ret
       exact ⟨by rw [HIS3.out];rfl,by repeat (first | exact HB.out | apply below_alloc)⟩
      | false =>
      simp only [hsc] at hlook
      cases hw1:withinB v.f0 (n - 1) with
      | false =>
       have HW1:=sd ((within_of v.f0 (n - 1)).trans (by rw [hw1]))
       have HIS3:=sd (show isB ⟨id,n,view,last,works,commit,log,acks,votes,told⟩=false by rw [HIS2.out,HSTEP.out,hsc,hw1];rfl)
       clear hsc hw1
       go_wp2_with ((go_at_call 60;with_reducible refine (replica_within.calls v.f0 (n - 1) false _ HW1.out).mono ?_;rintro e w' ⟨rfl,⟨nd,rfl⟩⟩))
       go_ret
       exact ⟨by rw [HIS3.out];rfl,by repeat (first | exact HB.out | apply pw_below_drewN | apply below_alloc)⟩
      | true =>
      have HW1:=sd ((within_of v.f0 (n - 1)).trans (by rw [hw1]))
      cases hw2:withinB v.f1 view with
      | false =>
       have HW2:=sd ((within_of v.f1 view).trans (by rw [hw2]))
       have HIS3:=sd (show isB ⟨id,n,view,last,works,commit,log,acks,votes,told⟩=false by rw [HIS2.out,HSTEP.out,hsc,hw1,hw2];rfl)
       clear hsc hw1 hw2
       go_wp2_with (first | (go_at_call 60;with_reducible refine (replica_within.calls v.f0 (n - 1) true _ HW1.out).mono ?_;rintro e w' ⟨rfl,⟨nd,rfl⟩⟩) | (go_at_call 60;with_reducible refine (replica_within.calls v.f1 view false _ HW2.out).mono ?_;rintro e w' ⟨rfl,⟨nd2,rfl⟩⟩))
       go_ret
       exact ⟨by rw [HIS3.out];rfl,by repeat (first | exact HB.out | apply pw_below_drewN | apply below_alloc)⟩
      | true =>
      have HW2:=sd ((within_of v.f1 view).trans (by rw [hw2]))
      have HLV:=sd (logged_of k HK.out v.f3 v.f2 HVV2.out.1)
      cases hlg:loggedB v.f3 v.f2 with
      | false =>
       rw [hlg] at HLV
       have HIS3:=sd (show isB ⟨id,n,view,last,works,commit,log,acks,votes,told⟩=false by rw [HIS2.out,HSTEP.out,hsc,hw1,hw2,hlg];rfl)
       clear hsc hw1 hw2 hlg
       go_wp2_with (first | (go_at_call 60;with_reducible refine (replica_within.calls v.f0 (n - 1) true _ HW1.out).mono ?_;rintro e w' ⟨rfl,⟨nd,rfl⟩⟩) | (go_at_call 60;with_reducible refine (replica_within.calls v.f1 view true _ HW2.out).mono ?_;rintro e w' ⟨rfl,⟨nd2,rfl⟩⟩) | (go_at_call 61;refine (replica_logged.calls k A3 c3 v.f3 v.f2 false _ (by repeat (first | exact HIY.out | refine Kd.C_drewN ?_ _ | refine Kd.C_alloc ?_ _)) HLY.out HLV.out).mono ?_;rintro e w9 ⟨rfl,hb9⟩;have HB9:=sd hb9;have HBV9:=sd ((hb9.block wr.heap.size (by show wr.heap.size < (wr.alloc (.cells #[.int .i64 v.f0,.int .i64 v.f1,.int .i64 v.f2,.slice A3 v.f3.length c3] 63)).heap.size;simp)).trans (x_alloc_new wr (.cells #[.int .i64 v.f0,.int .i64 v.f1,.int .i64 v.f2,.slice A3 v.f3.length c3] 63)));have hv90:w9.cell? ⟨wr.heap.size,0,none⟩=some (.int .i64 v.f0):=blk_cell HBV9.out 0;clear hb9))
       go_ret
       exact ⟨by rw [HIS3.out];rfl,below_step (pw_below_drewN (below_alloc HB.out _) _) HB9.out⟩
      | true =>
       rw [hlg] at HLV
       have HNEXT:=sd (show votesB n view votes []=votesB n view (votes.drop (i+1)) (v.f0::seen) by rw [HSTEP.out,hsc,hw1,hw2,hlg];rfl)
       have HI3:=sd (inv2_put HO.out HI2.out v.f0)
       clear hsc hw1 hw2 hlg
       go_wp2_with (first | (go_at_call 60;with_reducible refine (replica_within.calls v.f0 (n - 1) true _ HW1.out).mono ?_;rintro e w' ⟨rfl,⟨nd,rfl⟩⟩) | (go_at_call 60;with_reducible refine (replica_within.calls v.f1 view true _ HW2.out).mono ?_;rintro e w' ⟨rfl,⟨nd2,rfl⟩⟩) | (go_at_call 61;refine (replica_logged.calls k A3 c3 v.f3 v.f2 true _ (by repeat (first | exact HIY.out | refine Kd.C_drewN ?_ _ | refine Kd.C_alloc ?_ _)) HLY.out HLV.out).mono ?_;rintro e w9 ⟨rfl,hb9⟩;have HB9:=sd hb9;have HBV9:=sd ((hb9.block wr.heap.size (by show wr.heap.size < (wr.alloc (.cells #[.int .i64 v.f0,.int .i64 v.f1,.int .i64 v.f2,.slice A3 v.f3.length c3] 63)).heap.size;simp)).trans (x_alloc_new wr (.cells #[.int .i64 v.f0,.int .i64 v.f1,.int .i64 v.f2,.slice A3 v.f3.length c3] 63)));have hv90:w9.cell? ⟨wr.heap.size,0,none⟩=some (.int .i64 v.f0):=blk_cell HBV9.out 0;clear hb9) | (at_mapUpdate;refine wpList_mapUpdate_own (H:=Unit) _ rfl _ _ _ 82 rfl 3 4 (Maps.int_keyed Tryz.underlying3) Tryz.underlying82 (plainElem Tryz.prog 4) gm i D rfl ?own ?room _ _ (.int .i64 v.f0) rfl rfl hkey (.lit (.bool true)) [] (plainElem_bool Tryz.underlying4 true) ?_;(case own=>exact ownsMap_below (by (exact HO.out.alloc _)) HB9.out);(case room=>have:=HVM.out;simp [maxLen];omega);intro w10 ho2 hg2;have HO2:=sd ho2;have HG2:=sd hg2;clear ho2 hg2))
       have HB10:=sd (below_step (pw_below_drewN (below_alloc HB.out _) _) HB9.out)
       have HBX9:=sd ((HB9.out.block w.heap.size (by have:=blk_lt HBX.out;show w.heap.size < (wr.alloc (.cells #[.int .i64 v.f0,.int .i64 v.f1,.int .i64 v.f2,.slice A3 v.f3.length c3] 63)).heap.size;simp;omega)).trans (blk_alloc HBX.out (.cells #[.int .i64 v.f0,.int .i64 v.f1,.int .i64 v.f2,.slice A3 v.f3.length c3] 63)))
       go_roundg (votes.length - (i+1))
       case measure=>have:=hi.out.1;omega
       case rel =>
        have hw:wrap64 ((i:Int)+1)=((i+1:Nat):Int):=by have:=HVM.out;unfold wrap64;omega
        refine ⟨i+1,D.put (.int .i64 v.f0) (.lit (.bool true)),v.f0::seen,by rw [hw],⟨by have:=hi.out;omega,by omega⟩,HO2,HI3,HNEXT,⟨?_⟩,⟨?_⟩⟩
        ·exact Below.grown HB10.out HG2.out HB10.out.size (fun k hk=>by injection hk with hk;have:=HGM2.out;omega)
        ·exact (HG2.out.block w.heap.size (blk_lt HBX9.out) (fun e=>HGM.out (Option.some.inj e))).trans HBX9.out
     ·have hb1:decide ((i:Int) < (votes.length:Int))=false:=decide_eq_false (by omega)
      have hie:i=votes.length:=by have:=hi.out;omega
      have HIS3:=sd (show isB ⟨id,n,view,last,works,commit,log,acks,votes,told⟩=true by rw [HIS2.out,HVB.out,hie,List.drop_length];rfl)
      clear hie
      go_wp2
      go_ret
      exact ⟨by rw [HIS3.out];rfl,by repeat (exact HB.out)⟩
end Go.Proofs.YtfpfpckocemmdaaGreat.P
