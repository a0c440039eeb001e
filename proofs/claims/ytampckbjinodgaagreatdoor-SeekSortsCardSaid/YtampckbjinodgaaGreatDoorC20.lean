/-
  Lifted functions, and facts about them.
-/
import Derived.Test.YtampckbjinodgaaGreatDoorRows
import Derived.Test.YtampckbjinodgaaGreatDoorAmC
import Derived.Test.YtampckbjinodgaaGreatDoorC01
import Derived.Test.YtampckbjinodgaaGreatDoorC19
namespace Go.Proofs.YtampckbjinodgaaGreatDoor
open Go Go.Am
set_option linter.unusedVariables false
def atF (x:FoundT):Int:=x.1.1.2.2.2.1
def idF (x:FoundT):Int:=x.1.1.1
def keyF (dn:Bool) (x:FoundT):Int:=if dn then - atF x else atF x
def cmpD (dn:Bool) (x y:FoundT):Int:=if cmpI (keyF dn x) (keyF dn y)≠0 then cmpI (keyF dn x) (keyF dn y) else cmpI (idF x) (idF y)
def cmpO:List (Elt ordC)->FoundT->FoundT->Int
 | [(_,(_,dn))],x,y=>cmpD dn x y
 | _,_,_=>0
abbrev ordD (dn:Bool):List (Elt ordC):=[((1:Int),(([]:List UInt8),dn))]
abbrev cmpok (o:List (Elt ordC)):Prop:=∃ dn,o=ordD dn
def LtF (dn:Bool) (x y:FoundT):Prop:=keyF dn x < keyF dn y\/keyF dn x=keyF dn y/\idF x < idF y
theorem cmpI_neg (x y:Int):0 - cmpI x y=cmpI (-x) (-y):=by
 unfold cmpI; repeat' split
 all_goals omega
theorem cmpI_lt (x y:Int):cmpI x y < 0↔x < y:=by
 unfold cmpI; repeat' split
 all_goals omega
theorem cmpI_zero (x y:Int):cmpI x y=0↔x=y:=by
 unfold cmpI; repeat' split
 all_goals omega
theorem cmpD_lt (dn:Bool) (x y:FoundT):cmpD dn x y < 0↔LtF dn x y:=by
 have h1:=cmpI_lt (keyF dn x) (keyF dn y)
 have h2:=cmpI_zero (keyF dn x) (keyF dn y)
 have h3:=cmpI_lt (idF x) (idF y)
 unfold cmpD LtF
 split <;> omega
theorem cmpO_dec (dn:Bool) (x y:FoundT):decide (cmpO (ordD dn) x y < (0:Int))=decide (cmpD dn x y < 0):=rfl
theorem LtF.trans {dn:Bool} {x y z:FoundT} (h:LtF dn x y) (k:LtF dn y z):LtF dn x z:=by unfold LtF at *; omega
theorem LtF.asymm {dn:Bool} {x y:FoundT} (h:LtF dn x y):¬ LtF dn y x:=by unfold LtF at *; omega
theorem LtF.of_not {dn:Bool} {x y:FoundT} (h:¬ LtF dn x y) (k:idF x≠idF y):LtF dn y x:=by unfold LtF at *; omega
noncomputable def Ghold:Cfg:=⟨Tryz.prog,mkEnv [(52,sp_cmpI)],mkEnvR [],81,[],[],[([888888,1],[4,65,5,65])]⟩
noncomputable def Fhold (F:Nat) (tx:List UInt8) (dn:Bool) (pa:OpenT) (sa ua:List UInt8) (pb:OpenT) (sb ub:List UInt8):Option Ans:=runF Ghold Tryz.f51 F [.agg [.p (.int .i64 (1:Int)),.p (.str tx),.p (.bool dn)],.agg [.p (.box 10 (cell openC pa)),.p (.str sa),.p (.str ua)],.agg [.p (.box 10 (cell openC pb)),.p (.str sb),.p (.str ub)]]
theorem Fhold_eq (F:Nat) (tx:List UInt8) (dn:Bool) (pa:OpenT) (sa ua:List UInt8) (pb:OpenT) (sb ub:List UInt8):Fhold (F+1) tx dn pa sa ua pb sb ub=some (.p (.int .i64 (cmpI pa.1.2.2.2.1 pb.1.2.2.2.1)),[]):=by kernel_rfl
theorem fn_hold (F:Nat) (tx:List UInt8) (dn:Bool) (pa:OpenT) (sa ua:List UInt8) (pb:OpenT) (sb ub:List UInt8) (r:AV) (h:(∃ M vs,ARels γ0 M [.agg [.p (.int .i64 (1:Int)),.p (.str tx),.p (.bool dn)],.agg [.p (.box 10 (cell openC pa)),.p (.str sa),.p (.str ua)],.agg [.p (.box 10 (cell openC pb)),.p (.str sb),.p (.str ub)]] vs)->Fhold F tx dn pa sa ua pb sb ub=some (r,[])):FnP Tryz.prog 51 [.agg [.p (.int .i64 (1:Int)),.p (.str tx),.p (.bool dn)],.agg [.p (.box 10 (cell openC pa)),.p (.str sa),.p (.str ua)],.agg [.p (.box 10 (cell openC pb)),.p (.str sb),.p (.str ub)]] r:=
 FnP_run Ghold F rfl (EnvOk_mk (l:=[(52,sp_cmpI)]) ⟨ok_cmpI.any,trivial⟩) (EnvROk_mk (l:=[]) trivial) (Checked.mixed Tryz.checked) (fn:=Tryz.f51) (by kernel_rfl) (by kernel_rfl) rfl h
def sp_hold:List AV->Option (AV×Option Prop)
 | [.agg [.p (.int .i64 k),.p (.str _),.p (.bool _)],.agg [.p (.box 10 f),.p (.str _),.p (.str _)],.agg [.p (.box 10 g),.p (.str _),.p (.str _)]]=>match toDat openC (rangeL f 10 0),toDat openC (rangeL g 10 0) with
  | some x,some y=>some (.p (.int .i64 (cmpI x.1.2.2.2.1 y.1.2.2.2.1)),some (k=1))
  | _,_=>none
 | _=>none
theorem ok_hold:SpecOk Tryz.prog 51 sp_hold:=by
 intro zs r ok he hok
 unfold sp_hold at he
 split at he
 .rename_i k tx dn f s1 s2 g s3 s4
  split at he
  .rename_i x y hx hy
   cases he
   have hok:k=1:=hok
   subst hok
   exact ⟨by kernel_rfl,FnP.lq (ys:=[.agg [.p (.int .i64 1),.p (.str tx),.p (.bool dn)],.agg [.p (.box 10 (cell openC x)),.p (.str s1),.p (.str s2)],.agg [.p (.box 10 (cell openC y)),.p (.str s3),.p (.str s4)]]) ⟨Lq.refl _,Lq.agg ⟨Lq.box (c:=openC) hx,Lq.refl _,Lq.refl _,trivial⟩,Lq.agg ⟨Lq.box (c:=openC) hy,Lq.refl _,Lq.refl _,trivial⟩,trivial⟩
    (fn_hold 1 tx dn x s1 s2 y s3 s4 _ fun _=>Fhold_eq 0 tx dn x s1 s2 y s3 s4)⟩
  .cases he
 .cases he
noncomputable def ccomp1:Code:=bodyOf Tryz.f30
noncomputable def Gcomp1:Cfg:=⟨Tryz.prog,mkEnv [(51,sp_hold),(52,sp_cmpI)],mkEnvR [],41,[],[([0,1,0,1],⟨[4,5,10,11,12],[]⟩)],[([888888,1],[4,65,5,65])]⟩
noncomputable def Bcomp1_1 (F f1:Nat) (vp1:FoundT) (vp2:FoundT) (vl3:List (Int×List UInt8×Bool)) (vi4:Int):Option Ans:=runR Gcomp1 ccomp1 (kP Tryz.prog Tryz.f30.results.toList) F [] [1,0,1,0] f1 [(4,.p (.box 3 (cell foundC vp1))),(5,.p (.box 3 (cell foundC vp2))),(10,.p (.list 3 (.dat (.pair (.int .i64) (.pair .str .bool)) vl3))),(11,.p (.int .i64 (1:Int))),(12,.p (.int .i64 vi4))] []
noncomputable def Fcomp1 (F:Nat) (dn:Bool) (pa:OpenT) (sa ua:List UInt8) (pb:OpenT) (sb ub:List UInt8):Option Ans:=runF Gcomp1 Tryz.f30 F [.p (.list 3 (.dat (.pair (.int .i64) (.pair .str .bool)) [((1:Int),(([]:List UInt8),dn))])),.agg [.p (.box 10 (cell openC pa)),.p (.str sa),.p (.str ua)],.agg [.p (.box 10 (cell openC pb)),.p (.str sb),.p (.str ub)]]
theorem Bcomp1_1_eq (F f1:Nat) (vp1:FoundT) (vp2:FoundT) (vl3:List (Int×List UInt8×Bool)) (vi4:Int):Bcomp1_1 F (f1+1) vp1 vp2 vl3 vi4=cond (decide (vi4 < (1:Int))) (need (0<=vi4/\vi4 < (vl3.length:Int)) (need (((vl3.getD (vi4).toNat ((0:Int),([],false))).1)=1) (cond ((((vl3.getD (vi4).toNat ((0:Int),([],false))).2).2)) (need (i64ok (0 - (cmpI vp1.1.1.2.2.2.1 vp2.1.1.2.2.2.1))) (cond ((0 - (cmpI vp1.1.1.2.2.2.1 vp2.1.1.2.2.2.1)) != (0:Int)) (some (.p (.int .i64 (0 - (cmpI vp1.1.1.2.2.2.1 vp2.1.1.2.2.2.1))),[])) (need (i64ok (vi4+(1:Int))) (Bcomp1_1 F f1 vp1 vp2 vl3 (vi4+(1:Int)))))) (cond ((cmpI vp1.1.1.2.2.2.1 vp2.1.1.2.2.2.1) != (0:Int)) (some (.p (.int .i64 (cmpI vp1.1.1.2.2.2.1 vp2.1.1.2.2.2.1)),[])) (need (i64ok (vi4+(1:Int))) (Bcomp1_1 F f1 vp1 vp2 vl3 (vi4+(1:Int)))))))) (some (.p (.int .i64 (cmpI vp1.1.1.1 vp2.1.1.1)),[])):=by kernel_rfl
theorem Fcomp1_eq (F:Nat) (dn:Bool) (pa:OpenT) (sa ua:List UInt8) (pb:OpenT) (sb ub:List UInt8):Fcomp1 F dn pa sa ua pb sb ub=Bcomp1_1 F F (pa,(sa,ua)) (pb,(sb,ub)) [((1:Int),(([]:List UInt8),dn))] (0:Int):=by kernel_rfl
theorem fn_comp1 (F:Nat) (dn:Bool) (pa:OpenT) (sa ua:List UInt8) (pb:OpenT) (sb ub:List UInt8) (r:AV) (h:(∃ M vs,ARels γ0 M [.p (.list 3 (.dat (.pair (.int .i64) (.pair .str .bool)) [((1:Int),(([]:List UInt8),dn))])),.agg [.p (.box 10 (cell openC pa)),.p (.str sa),.p (.str ua)],.agg [.p (.box 10 (cell openC pb)),.p (.str sb),.p (.str ub)]] vs)->Fcomp1 F dn pa sa ua pb sb ub=some (r,[])):FnP Tryz.prog 30 [.p (.list 3 (.dat (.pair (.int .i64) (.pair .str .bool)) [((1:Int),(([]:List UInt8),dn))])),.agg [.p (.box 10 (cell openC pa)),.p (.str sa),.p (.str ua)],.agg [.p (.box 10 (cell openC pb)),.p (.str sb),.p (.str ub)]] r:=
 FnP_run Gcomp1 F rfl (EnvOk_mk (l:=[(51,sp_hold),(52,sp_cmpI)]) ⟨ok_hold.any,ok_cmpI.any,trivial⟩) (EnvROk_mk (l:=[]) trivial) (Checked.mixed Tryz.checked) (fn:=Tryz.f30) (by kernel_rfl) (by kernel_rfl) rfl h
theorem comp1_eq (dn:Bool) (pa:OpenT) (sa ua:List UInt8) (pb:OpenT) (sb ub:List UInt8):Fcomp1 2 dn pa sa ua pb sb ub=some (.p (.int .i64 (cmpD dn (pa,(sa,ua)) (pb,(sb,ub)))),[]):=by
 rw [Fcomp1_eq]
 show Bcomp1_1 2 (1+1) _ _ _ _=_
 rw [Bcomp1_1_eq]
 refine cond_t (by decide) (need_mk (by show (0:Int)<=0/\(0:Int) < ((1:Nat):Int); decide) (need_mk rfl ?_))
 show cond dn _ _=_
 have hend:∀ (a b:FoundT),Bcomp1_1 2 (0+1) a b [((1:Int),(([]:List UInt8),dn))] (0+1)=some (.p (.int .i64 (cmpI a.1.1.1 b.1.1.1)),[]):=fun a b=>by
  rw [Bcomp1_1_eq]; exact cond_f (by decide) rfl
 have hlim : ∀ x y : Int, i64ok (0 - cmpI x y) := fun x y => by unfold i64ok cmpI; repeat' split
                                                                all_goals omega
 cases dn with
 | true=>
  refine need_mk (hlim _ _) ?_
  rw [cmpI_neg,cmpD]
  show cond (cmpI (-pa.1.2.2.2.1) (-pb.1.2.2.2.1) != 0) _ _=_
  by_cases hc:cmpI (keyF true (pa,(sa,ua))) (keyF true (pb,(sb,ub)))≠0
  .rw [if_pos hc]; exact cond_t (bne_iff_ne.2 hc) rfl
  .rw [if_neg hc]
   exact cond_f (by rw [bne_eq_false_iff_eq]; exact Decidable.not_not.1 hc) (need_mk (by unfold i64ok; omega) (hend _ _))
 | false=>
  rw [cmpD]
  show cond (cmpI (pa.1.2.2.2.1) (pb.1.2.2.2.1) != 0) _ _=_
  by_cases hc:cmpI (keyF false (pa,(sa,ua))) (keyF false (pb,(sb,ub)))≠0
  .rw [if_pos hc]; exact cond_t (bne_iff_ne.2 hc) rfl
  .rw [if_neg hc]
   exact cond_f (by rw [bne_eq_false_iff_eq]; exact Decidable.not_not.1 hc) (need_mk (by unfold i64ok; omega) (hend _ _))
def sp_compO:List AV->Option (AV×Option Prop)
 | [.p o,.agg [.p (.box 10 f),.p (.str s1),.p (.str s2)],.agg [.p (.box 10 g),.p (.str s3),.p (.str s4)]]=>match pList ordC o,toDat openC (rangeL f 10 0),toDat openC (rangeL g 10 0) with
  | some o,some x,some y=>some (.p (.int .i64 (cmpO o (x,(s1,s2)) (y,(s3,s4)))),some (cmpok o))
  | _,_,_=>none
 | _=>none
theorem ok_compO:SpecOk Tryz.prog 30 sp_compO:=by
 intro zs r ok he hok
 unfold sp_compO at he
 split at he
 .rename_i o' f s1 s2 g s3 s4
  split at he
  .rename_i o x y ho hx hy
   cases he
   obtain ⟨dn,rfl⟩:cmpok o:=hok
   exact ⟨by kernel_rfl,FnP.lq (ys:=[.p (.list 3 (.dat ordC (ordD dn))),.agg [.p (.box 10 (cell openC x)),.p (.str s1),.p (.str s2)],.agg [.p (.box 10 (cell openC y)),.p (.str s3),.p (.str s4)]]) ⟨Lq.list (a:=ordC) ho,Lq.agg ⟨Lq.box (c:=openC) hx,Lq.refl _,Lq.refl _,trivial⟩,Lq.agg ⟨Lq.box (c:=openC) hy,Lq.refl _,Lq.refl _,trivial⟩,trivial⟩
    (fn_comp1 2 dn x s1 s2 y s3 s4 _ fun _=>comp1_eq dn x s1 s2 y s3 s4)⟩
  .cases he
 .cases he
theorem pw_tri {α:Type} {R:α->α->Prop}:∀ {l:List α},l.Pairwise R->∀ {a b},a ∈ l->b ∈ l->a=b\/R a b\/R b a
 | [],_,_,_,ha,_=>by cases ha
 | x::l,h,a,b,ha,hb=>by
  rw [List.pairwise_cons] at h
  rcases List.mem_cons.1 ha with ha | ha <;> rcases List.mem_cons.1 hb with hb | hb
  .exact .inl (ha.trans hb.symm)
  .rw [ha]; exact .inr (.inl (h.1 _ hb))
  .rw [hb]; exact .inr (.inr (h.1 _ ha))
  .exact pw_tri h.2 ha hb
def leF (dn:Bool) (x y:FoundT):Bool:=!decide (cmpD dn y x < 0)
theorem leF_iff {dn:Bool} {x y:FoundT}:leF dn x y=true↔¬ LtF dn y x:=by
 unfold leF; rw [Bool.not_eq_true',decide_eq_false_iff_not,cmpD_lt]
def msort (dn:Bool) (l:List FoundT):List FoundT:=l.mergeSort (leF dn)
abbrev IdsF (l:List FoundT):Prop:=l.Pairwise fun x y=>idF x≠idF y
theorem msort_perm (dn:Bool) (l:List FoundT):(msort dn l).Perm l:=List.mergeSort_perm _ _
theorem msort_le (dn:Bool) (l:List FoundT):(msort dn l).Pairwise fun x y=>leF dn x y=true:=
 List.pairwise_mergeSort (fun a b c h k=>by rw [leF_iff] at *; unfold LtF at *; omega) (fun a b=>by
  rw [Bool.or_eq_true,leF_iff,leF_iff]; unfold LtF; omega) l
theorem msort_of {dn:Bool} {s w:List FoundT} (h:s.Perm w) (hs:s.Pairwise (LtF dn)):msort dn w=s:=by
 refine List.Perm.eq_of_pairwise (le:=fun x y=>leF dn x y=true) (fun a b ha hb h1 h2=>?_) (msort_le dn w) (hs.imp fun {x y} q=>leF_iff.2 q.asymm) ((msort_perm dn w).trans h.symm)
 rw [leF_iff] at h1 h2
 rcases pw_tri hs (h.symm.subset ((msort_perm dn w).subset ha)) hb with q | q | q
 .exact q
 .exact absurd q h2
 .exact absurd q h1
theorem IdsF.perm {l l':List FoundT} (h:IdsF l) (p:l.Perm l'):IdsF l':=(p.pairwise_iff (fun h=>Ne.symm h)).1 h
theorem msort_lt {dn:Bool} {w:List FoundT} (h:IdsF w):(msort dn w).Pairwise (LtF dn):=
 ((msort_le dn w).and (h.perm (msort_perm dn w).symm)).imp fun {x y} ⟨h1,h2⟩=>LtF.of_not (leF_iff.1 h1) (Ne.symm h2)
def sortR (o:List (Elt ordC)) (a b:Int) (l:List FoundT):List FoundT:=match o with
 | [(_,(_,dn))]=>l.take a.toNat++(msort dn ((l.take b.toNat).drop a.toNat)++l.drop b.toNat)
 | _=>l
theorem sortR_app (dn:Bool) (P W Q:List FoundT) (a b:Int) (ha:a=P.length) (hb:b=(P.length+W.length:Nat)):sortR (ordD dn) a b (P++(W++Q))=P++(msort dn W++Q):=by
 subst ha; subst hb
 show (P++(W++Q)).take _++(msort dn (((P++(W++Q)).take _).drop _)++(P++(W++Q)).drop _)=_
 rw [Int.toNat_natCast,Int.toNat_natCast]
 have e1:(P++(W++Q)).take (P.length+W.length)=P++W:=by rw [<-List.append_assoc]; exact List.take_left' (by simp)
 have e2:(P++(W++Q)).drop (P.length+W.length)=Q:=by rw [<-List.append_assoc]; exact List.drop_left' (by simp)
 rw [e1,e2,List.take_left' rfl,List.drop_left' rfl]
theorem seg_split (l:List FoundT) (a b:Nat) (h:a<=b) (hb:b<=l.length):∃ P W Q,l=P++(W++Q)/\P.length=a/\W.length=b - a:=by
 refine ⟨l.take a,(l.take b).drop a,l.drop b,?_,by rw [List.length_take]; omega,by rw [List.length_drop,List.length_take]; omega⟩
 have e:l.take a=(l.take b).take a:=by rw [List.take_take,Nat.min_eq_left h]
 rw [e,<-List.append_assoc,List.take_append_drop,List.take_append_drop]
theorem getD_midF {P Q:List FoundT} {u:FoundT} {n:Nat} (h:n=P.length) (d:FoundT):(P++u::Q).getD n d=u:=by
 subst h; simp
theorem set_midF {P Q:List FoundT} {u v:FoundT} {n:Nat} (h:n=P.length):(P++u::Q).set n v=P++v::Q:=by
 subst h; simp
abbrev insok (o:List (Elt ordC)) (a b:Int) (l:List FoundT):Prop:=cmpok o/\0<=a/\a<=b/\b<=l.length/\l.length<=1000/\IdsF l
noncomputable def cinsG:Code:=bodyOf Tryz.f82
noncomputable def GinsG:Cfg:=⟨Tryz.prog,mkEnv [(30,sp_compO)],mkEnvR [],53,[70000],[([0,1],⟨[0,1,2,3,8],[⟨.fix 70000,70000,.cells []⟩]⟩),([0,1,0,0,1,0,0,1],⟨[0,1,2,3,8,9],[⟨.fix 70000,70000,.cells []⟩]⟩),([1,0,0,0,1,0,0,1,0,0,1],⟨[0,1,2,3,8,9,34],[⟨.fix 70000,70000,.cells []⟩]⟩),([1,1,0,0,1,0,0,1,0,0,1],⟨[0,1,2,3,8,9],[⟨.fix 70000,70000,.cells []⟩]⟩)],[]⟩
noncomputable def BinsG_1 (F f1:Nat) (x y:Int) (vl1:List (Int×List UInt8×Bool)) (vi2:Int) (vl3:List FoundT):Option Ans:=runR GinsG cinsG (kR Tryz.prog [70000] ⟨[],[⟨.fix 70000,70000,.cells []⟩]⟩ [70000] Tryz.f82.results.toList) F [] [1,0] f1 [(0,.arr 70000),(1,.p (.int .i64 x)),(2,.p (.int .i64 y)),(3,.clo (.func 30) [.p (.list 3 (.dat (.pair (.int .i64) (.pair .str .bool)) vl1))] []),(8,.p (.int .i64 vi2))] [(70000,.larr 64 true 3 (.dat foundC vl3))]
noncomputable def BinsG_2 (F f1 f2:Nat) (x y:Int) (vl1:List (Int×List UInt8×Bool)) (vi2 vi4:Int) (vl5:List FoundT):Option Ans:=runR GinsG cinsG (kR Tryz.prog [70000] ⟨[],[⟨.fix 70000,70000,.cells []⟩]⟩ [70000] Tryz.f82.results.toList) F [f1] [1,0,0,1,0,0,1,0] f2 [(0,.arr 70000),(1,.p (.int .i64 x)),(2,.p (.int .i64 y)),(3,.clo (.func 30) [.p (.list 3 (.dat (.pair (.int .i64) (.pair .str .bool)) vl1))] []),(8,.p (.int .i64 vi2)),(9,.p (.int .i64 vi4))] [(70000,.larr 64 true 3 (.dat foundC vl5))]
noncomputable def BinsG_3 (F f1 f2:Nat) (x y:Int) (vl1:List (Int×List UInt8×Bool)) (vi2 vi4:Int) (vc6:Bool) (vl5:List FoundT):Option Ans:=runB GinsG cinsG (kR Tryz.prog [70000] ⟨[],[⟨.fix 70000,70000,.cells []⟩]⟩ [70000] Tryz.f82.results.toList) F [f1,f2] [1,0,0,1,0,0,1,0,0,0,1] [(0,.arr 70000),(1,.p (.int .i64 x)),(2,.p (.int .i64 y)),(3,.clo (.func 30) [.p (.list 3 (.dat (.pair (.int .i64) (.pair .str .bool)) vl1))] []),(8,.p (.int .i64 vi2)),(9,.p (.int .i64 vi4)),(34,.p (.bool vc6))] [(70000,.larr 64 true 3 (.dat foundC vl5))]
noncomputable def BinsG_4 (F f1 f2:Nat) (x y:Int) (vl1:List (Int×List UInt8×Bool)) (vi2 vi4:Int) (vl7:List FoundT):Option Ans:=runB GinsG cinsG (kR Tryz.prog [70000] ⟨[],[⟨.fix 70000,70000,.cells []⟩]⟩ [70000] Tryz.f82.results.toList) F [f1,f2] [1,0,0,1,0,0,1,0,0,1,1] [(0,.arr 70000),(1,.p (.int .i64 x)),(2,.p (.int .i64 y)),(3,.clo (.func 30) [.p (.list 3 (.dat (.pair (.int .i64) (.pair .str .bool)) vl1))] []),(8,.p (.int .i64 vi2)),(9,.p (.int .i64 vi4))] [(70000,.larr 64 true 3 (.dat foundC vl7))]
noncomputable def FinsG (F:Nat) (x y:Int) (o:List (Elt ordC)) (l:List FoundT):Option Ans:=runFR GinsG Tryz.f82 ⟨[],[⟨.fix 70000,70000,.cells []⟩]⟩ [70000] F [.arr 70000,.p (.int .i64 x),.p (.int .i64 y),.clo (.func 30) [.p (.list 3 (.dat (.pair (.int .i64) (.pair .str .bool)) o))] []] [(70000,.larr 64 true 3 (.dat foundC l))]
theorem BinsG_1_eq (F f1:Nat) (x y:Int) (vl1:List (Int×List UInt8×Bool)) (vi2:Int) (vl3:List FoundT):BinsG_1 F (f1+1) x y vl1 vi2 vl3=cond (decide (vi2 < y)) (BinsG_2 F f1 f1 x y vl1 vi2 vi2 vl3) (some (.tup [],[(70000,.larr 64 true 3 (.dat foundC vl3))])):=by kernel_rfl
theorem BinsG_2_eq (F f1 f2:Nat) (x y:Int) (vl1:List (Int×List UInt8×Bool)) (vi2 vi4:Int) (vl5:List FoundT):BinsG_2 F f1 (f2+1) x y vl1 vi2 vi4 vl5=need ((decide (vi4 > x))=true->0<=vi4/\vi4 < (vl5.length:Int)) (need ((decide (vi4 > x))=true->(vi4).toNat < vl5.length) (need ((decide (vi4 > x))=true->i64ok (vi4 - (1:Int))) (need ((decide (vi4 > x))=true->0<=(vi4 - (1:Int))/\(vi4 - (1:Int)) < (vl5.length:Int)) (need ((decide (vi4 > x))=true->(vi4 - (1:Int)).toNat < vl5.length) (need ((decide (vi4 > x))=true->cmpok vl1) (BinsG_3 F f1 f2 x y vl1 vi2 vi4 ((decide (vi4 > x))&&(decide ((cmpO vl1 (((vl5.getD ((vi4).toNat) ((((0:Int),((0:Int),([],((0:Int),([],([],((0:Int),(0:Int)))))))),([],[])),([],[]))).1),((((vl5.getD ((vi4).toNat) ((((0:Int),((0:Int),([],((0:Int),([],([],((0:Int),(0:Int)))))))),([],[])),([],[]))).2).1),(((vl5.getD ((vi4).toNat) ((((0:Int),((0:Int),([],((0:Int),([],([],((0:Int),(0:Int)))))))),([],[])),([],[]))).2).2))) (((vl5.getD ((vi4 - (1:Int)).toNat) ((((0:Int),((0:Int),([],((0:Int),([],([],((0:Int),(0:Int)))))))),([],[])),([],[]))).1),((((vl5.getD ((vi4 - (1:Int)).toNat) ((((0:Int),((0:Int),([],((0:Int),([],([],((0:Int),(0:Int)))))))),([],[])),([],[]))).2).1),(((vl5.getD ((vi4 - (1:Int)).toNat) ((((0:Int),((0:Int),([],((0:Int),([],([],((0:Int),(0:Int)))))))),([],[])),([],[]))).2).2)))) < (0:Int)))) vl5)))))):=
 Eq.trans (show BinsG_2 F f1 (f2+1) x y vl1 vi2 vi4 vl5=need ((decide (vi4 > x))=true->(decide (vi4 > x))=true) (need ((decide (vi4 > x))=true->(decide (vi4 > x))=true) (need ((decide (vi4 > x))=true->0<=vi4/\vi4 < (vl5.length:Int)) (need ((decide (vi4 > x))=true->(decide (vi4 > x))=true) (need ((decide (vi4 > x))=true->(vi4).toNat < vl5.length) (need ((decide (vi4 > x))=true->(decide (vi4 > x))=true) (need ((decide (vi4 > x))=true->i64ok (vi4 - (1:Int))) (need ((decide (vi4 > x))=true->(decide (vi4 > x))=true) (need ((decide (vi4 > x))=true->(decide (vi4 > x))=true) (need ((decide (vi4 > x))=true->0<=(vi4 - (1:Int))/\(vi4 - (1:Int)) < (vl5.length:Int)) (need ((decide (vi4 > x))=true->(decide (vi4 > x))=true) (need ((decide (vi4 > x))=true->(vi4 - (1:Int)).toNat < vl5.length) (need ((decide (vi4 > x))=true->(decide (vi4 > x))=true) (need ((decide (vi4 > x))=true->(decide (vi4 > x))=true) (need ((decide (vi4 > x))=true->(decide (vi4 > x))=true) (need ((decide (vi4 > x))=true->cmpok vl1) (need ((decide (vi4 > x))=true->(decide (vi4 > x))=true) (need ((decide (vi4 > x))=true->(decide (vi4 > x))=true) (BinsG_3 F f1 f2 x y vl1 vi2 vi4 ((decide (vi4 > x))&&(decide ((cmpO vl1 (((vl5.getD ((vi4).toNat) ((((0:Int),((0:Int),([],((0:Int),([],([],((0:Int),(0:Int)))))))),([],[])),([],[]))).1),((((vl5.getD ((vi4).toNat) ((((0:Int),((0:Int),([],((0:Int),([],([],((0:Int),(0:Int)))))))),([],[])),([],[]))).2).1),(((vl5.getD ((vi4).toNat) ((((0:Int),((0:Int),([],((0:Int),([],([],((0:Int),(0:Int)))))))),([],[])),([],[]))).2).2))) (((vl5.getD ((vi4 - (1:Int)).toNat) ((((0:Int),((0:Int),([],((0:Int),([],([],((0:Int),(0:Int)))))))),([],[])),([],[]))).1),((((vl5.getD ((vi4 - (1:Int)).toNat) ((((0:Int),((0:Int),([],((0:Int),([],([],((0:Int),(0:Int)))))))),([],[])),([],[]))).2).1),(((vl5.getD ((vi4 - (1:Int)).toNat) ((((0:Int),((0:Int),([],((0:Int),([],([],((0:Int),(0:Int)))))))),([],[])),([],[]))).2).2)))) < (0:Int)))) vl5)))))))))))))))))) by kernel_rfl) (need_strike (show (decide (vi4 > x))=true->(decide (vi4 > x))=true from (fun q0=>q0)) (need_strike (show (decide (vi4 > x))=true->(decide (vi4 > x))=true from (fun q0=>q0)) (need_congr (need_strike (show (decide (vi4 > x))=true->(decide (vi4 > x))=true from (fun q0=>q0)) (need_congr (need_strike (show (decide (vi4 > x))=true->(decide (vi4 > x))=true from (fun q0=>q0)) (need_congr (need_strike (show (decide (vi4 > x))=true->(decide (vi4 > x))=true from (fun q0=>q0)) (need_strike (show (decide (vi4 > x))=true->(decide (vi4 > x))=true from (fun q0=>q0)) (need_congr (need_strike (show (decide (vi4 > x))=true->(decide (vi4 > x))=true from (fun q0=>q0)) (need_congr (need_strike (show (decide (vi4 > x))=true->(decide (vi4 > x))=true from (fun q0=>q0)) (need_strike (show (decide (vi4 > x))=true->(decide (vi4 > x))=true from (fun q0=>q0)) (need_strike (show (decide (vi4 > x))=true->(decide (vi4 > x))=true from (fun q0=>q0)) (need_congr (need_strike (show (decide (vi4 > x))=true->(decide (vi4 > x))=true from (fun q0=>q0)) (need_strike (show (decide (vi4 > x))=true->(decide (vi4 > x))=true from (fun q0=>q0)) (rfl)))))))))))))))))))
theorem BinsG_3_eq (F f1 f2:Nat) (x y:Int) (vl1:List (Int×List UInt8×Bool)) (vi2 vi4:Int) (vc6:Bool) (vl5:List FoundT):BinsG_3 F f1 f2 x y vl1 vi2 vi4 vc6 vl5=cond (vc6) (need (i64ok (vi4 - (1:Int))) (need (i64ok (vi4 - (1:Int))) (need (0<=(vi4 - (1:Int))/\(vi4 - (1:Int)) < (vl5.length:Int)) (need ((vi4 - (1:Int)).toNat < vl5.length) (need (0<=vi4/\vi4 < (vl5.length:Int)) (need ((vi4).toNat < vl5.length) (need (0<=vi4/\vi4 < (vl5.length:Int)) (need ((vi4).toNat < vl5.length) (need (0<=(vi4 - (1:Int))/\(vi4 - (1:Int)) < ((vl5.set ((vi4).toNat) (((vl5.getD ((vi4 - (1:Int)).toNat) ((((0:Int),((0:Int),([],((0:Int),([],([],((0:Int),(0:Int)))))))),([],[])),([],[]))).1),((((vl5.getD ((vi4 - (1:Int)).toNat) ((((0:Int),((0:Int),([],((0:Int),([],([],((0:Int),(0:Int)))))))),([],[])),([],[]))).2).1),(((vl5.getD ((vi4 - (1:Int)).toNat) ((((0:Int),((0:Int),([],((0:Int),([],([],((0:Int),(0:Int)))))))),([],[])),([],[]))).2).2)))).length:Int)) (need ((vi4 - (1:Int)).toNat < (vl5.set ((vi4).toNat) (((vl5.getD ((vi4 - (1:Int)).toNat) ((((0:Int),((0:Int),([],((0:Int),([],([],((0:Int),(0:Int)))))))),([],[])),([],[]))).1),((((vl5.getD ((vi4 - (1:Int)).toNat) ((((0:Int),((0:Int),([],((0:Int),([],([],((0:Int),(0:Int)))))))),([],[])),([],[]))).2).1),(((vl5.getD ((vi4 - (1:Int)).toNat) ((((0:Int),((0:Int),([],((0:Int),([],([],((0:Int),(0:Int)))))))),([],[])),([],[]))).2).2)))).length) (BinsG_4 F f1 f2 x y vl1 vi2 vi4 ((vl5.set ((vi4).toNat) (((vl5.getD ((vi4 - (1:Int)).toNat) ((((0:Int),((0:Int),([],((0:Int),([],([],((0:Int),(0:Int)))))))),([],[])),([],[]))).1),((((vl5.getD ((vi4 - (1:Int)).toNat) ((((0:Int),((0:Int),([],((0:Int),([],([],((0:Int),(0:Int)))))))),([],[])),([],[]))).2).1),(((vl5.getD ((vi4 - (1:Int)).toNat) ((((0:Int),((0:Int),([],((0:Int),([],([],((0:Int),(0:Int)))))))),([],[])),([],[]))).2).2)))).set ((vi4 - (1:Int)).toNat) (((vl5.getD ((vi4).toNat) ((((0:Int),((0:Int),([],((0:Int),([],([],((0:Int),(0:Int)))))))),([],[])),([],[]))).1),((((vl5.getD ((vi4).toNat) ((((0:Int),((0:Int),([],((0:Int),([],([],((0:Int),(0:Int)))))))),([],[])),([],[]))).2).1),(((vl5.getD ((vi4).toNat) ((((0:Int),((0:Int),([],((0:Int),([],([],((0:Int),(0:Int)))))))),([],[])),([],[]))).2).2))))))))))))))) (need (i64ok (vi2+(1:Int))) (BinsG_1 F f1 x y vl1 (vi2+(1:Int)) vl5)):=by kernel_rfl
theorem BinsG_4_eq (F f1 f2:Nat) (x y:Int) (vl1:List (Int×List UInt8×Bool)) (vi2 vi4:Int) (vl7:List FoundT):BinsG_4 F f1 f2 x y vl1 vi2 vi4 vl7=need (i64ok (vi4 - (1:Int))) (BinsG_2 F f1 f2 x y vl1 vi2 (vi4 - (1:Int)) vl7):=by kernel_rfl
theorem FinsG_eq (F:Nat) (x y:Int) (o:List (Elt ordC)) (l:List FoundT):FinsG F x y o l=need (i64ok (x+(1:Int))) (BinsG_1 F F x y o (x+(1:Int)) l):=by kernel_rfl
theorem fn_insG (F:Nat) (x y:Int) (o:List (Elt ordC)) (l:List FoundT) (r:AV) (os:List (Nat×AObj)) (h:(∃ γ M w vs,ARels γ M [.arr 70000,.p (.int .i64 x),.p (.int .i64 y),.clo (.func 30) [.p (.list 3 (.dat (.pair (.int .i64) (.pair .str .bool)) o))] []] vs/\Objs γ M w (fun i=>lookO i [(70000,.larr 64 true 3 (.dat foundC l))]) (fun b=>b < w.heap.size))->FinsG F x y o l=some (r,os)):FnR Tryz.prog 82 [.arr 70000,.p (.int .i64 x),.p (.int .i64 y),.clo (.func 30) [.p (.list 3 (.dat (.pair (.int .i64) (.pair .str .bool)) o))] []] [(70000,.larr 64 true 3 (.dat foundC l))] [70000] r os:=
 FnR_run GinsG ⟨[],[⟨.fix 70000,70000,.cells []⟩]⟩ [70000] F rfl (EnvOk_mk (l:=[(30,sp_compO)]) ⟨ok_compO.any,trivial⟩) (EnvROk_mk (l:=[]) trivial) (Checked.mixed Tryz.checked) (fn:=Tryz.f82) (by kernel_rfl) (by kernel_rfl) rfl h
theorem ins_2 (dn:Bool) (F f1:Nat) (P Z:List FoundT) (u:FoundT) (b i:Int) (hi:0<=i/\i<=1000):∀ (n f2:Nat) (A B:List FoundT),A.length=n->n < f2->(A++B).Pairwise (LtF dn)->(∀ z ∈ A++B,idF z≠idF u)->(∀ z ∈ B,LtF dn u z)->
 P.length+(A.length+(B.length+Z.length))+1<=1000->
 ∃ S,S.Perm (A++u::B)/\S.Pairwise (LtF dn)/\BinsG_2 F f1 f2 (P.length:Int) b (ordD dn) i ((P.length+A.length:Nat):Int) (P++(A++u::(B++Z)))=BinsG_1 F f1 (P.length:Int) b (ordD dn) (i+1) (P++(S++Z)):=by
 intro n
 induction n with
 | zero=>
  intro f2 A B hA hf hs hid hb hlen
  obtain ⟨f2,rfl⟩:∃ k,f2=k+1:=⟨f2 - 1,by omega⟩
  have:A=[]:=List.eq_nil_of_length_eq_zero hA
  subst this
  refine ⟨u::B,.refl _,List.pairwise_cons.2 ⟨hb,hs⟩,?_⟩
  have hg:decide (((P.length+([]:List FoundT).length:Nat):Int) > (P.length:Int))=false:=decide_eq_false (by simp)
  rw [BinsG_2_eq,hg]
  iterate 6 refine need_mk (fun h=>absurd h (by decide)) ?_
  rw [Bool.false_and,BinsG_3_eq]
  exact cond_f rfl (need_mk (by unfold i64ok; omega) rfl)
 | succ n ih=>
  intro f2 A B hA hf hs hid hb hlen
  obtain ⟨f2,rfl⟩:∃ k,f2=k+1:=⟨f2 - 1,by omega⟩
  obtain ⟨A,y,rfl⟩:∃ A' y,A=A'++[y]:=by
   rcases List.eq_nil_or_concat A with rfl | ⟨A',y,rfl⟩
   .simp at hA
   .exact ⟨A',y,List.concat_eq_append⟩
  have hA:A.length=n:=by simpa using hA
  have e0:P++(A++[y]++u::(B++Z))=(P++A)++y::u::(B++Z):=by simp
  have e1:P++(A++[y]++u::(B++Z))=(P++(A++[y]))++u::(B++Z):=by simp
  have hlen:P.length+(A.length+1+(B.length+Z.length))+1<=1000:=by simpa using hlen
  have el:(P++(A++[y]++u::(B++Z))).length=P.length+A.length+2+(B.length+Z.length):=by simp; omega
  have tn:(((P.length+(A++[y]).length:Nat):Int)).toNat=P.length+A.length+1:=by simp; omega
  have tm:(((P.length+(A++[y]).length:Nat):Int) - (1:Int)).toNat=P.length+A.length:=by simp; omega
  have tj:((P.length+(A++[y]).length:Nat):Int)=((P.length+A.length:Nat):Int)+1:=by simp; omega
  have g1:∀ d,(P++(A++[y]++u::(B++Z))).getD (P.length+A.length+1) d=u:=fun d=>by rw [e1]; exact getD_midF (by simp; omega) d
  have g0:∀ d,(P++(A++[y]++u::(B++Z))).getD (P.length+A.length) d=y:=fun d=>by rw [e0]; exact getD_midF (by simp) d
  have hg:decide (((P.length+(A++[y]).length:Nat):Int) > (P.length:Int))=true:=decide_eq_true (by simp; omega)
  have hstep:BinsG_2 F f1 (f2+1) (P.length:Int) b (ordD dn) i ((P.length+(A++[y]).length:Nat):Int) (P++(A++[y]++u::(B++Z)))=
   cond (decide (cmpD dn u y < 0)) (BinsG_2 F f1 f2 (P.length:Int) b (ordD dn) i ((P.length+A.length:Nat):Int) (P++(A++u::(y::B++Z)))) (BinsG_1 F f1 (P.length:Int) b (ordD dn) (i+1) (P++(A++[y]++u::(B++Z)))):=by
   rw [BinsG_2_eq,hg,tn,tm]
   refine need_mk (fun _=>by rw [el]; omega) (need_mk (fun _=>by rw [el]; omega) (need_mk (fun _=>by unfold i64ok; omega) (need_mk (fun _=>by rw [el]; omega) (need_mk (fun _=>by rw [el]; omega) (need_mk (fun _=>⟨dn,rfl⟩) ?_)))))
   simp only [g0,g1,Prod.eta]
   rw [cmpO_dec,Bool.true_and,BinsG_3_eq,tn,tm]
   cases decide (cmpD dn u y < 0) with
   | false=>exact need_mk (by unfold i64ok; omega) rfl
   | true=>
    dsimp only [cond]
    iterate 2 refine need_mk (by unfold i64ok; omega) ?_
    iterate 2 refine need_mk (by rw [el]; omega) (need_mk (by rw [el]; omega) ?_)
    refine need_mk (by rw [el]; omega) (need_mk (by rw [el]; omega) ?_)
    simp only [g0,g1,Prod.eta,List.length_set]
    refine need_mk (by rw [el]; omega) (need_mk (by rw [el]; omega) ?_)
    rw [BinsG_4_eq]
    refine need_mk (by unfold i64ok; omega) ?_
    rw [e1,set_midF (by simp; omega),show P++(A++[y])++y::(B++Z)=(P++A)++y::(y::B++Z) by simp,set_midF (by simp),List.append_assoc P A,tj,Int.add_sub_cancel]
  by_cases hc:LtF dn u y
  .have hs':=hs
   rw [List.append_assoc] at hs'
   obtain ⟨S,p1,p2,p3⟩:=ih f2 A (y::B) hA (by omega) hs' (fun z hz=>hid z (by simpa using hz)) (fun z hz=>by
    rcases List.mem_cons.1 hz with rfl | hz
    .exact hc
    .exact hb z hz) (by simp; omega)
   refine ⟨S,p1.trans ?_,p2,?_⟩
   .rw [List.append_assoc]
    exact List.Perm.append_left A (List.Perm.swap y u B)
   .rw [hstep,decide_eq_true ((cmpD_lt dn u y).2 hc)]
    exact p3
  .have hyu:LtF dn y u:=LtF.of_not hc (Ne.symm (hid y (by simp)))
   refine ⟨A++[y]++u::B,.refl _,?_,?_⟩
   .rw [List.pairwise_append] at hs ⊢
    obtain ⟨q1,q2,q3⟩:=hs
    refine ⟨q1,List.pairwise_cons.2 ⟨hb,q2⟩,fun a ha z hz=>?_⟩
    rcases List.mem_cons.1 hz with rfl | hz
    .rcases List.mem_append.1 ha with ha' | ha'
     .rw [List.pairwise_append] at q1
      exact (q1.2.2 a ha' y (by simp)).trans hyu
     .rw [List.mem_singleton.1 ha']; exact hyu
    .exact q3 a ha z hz
   .rw [hstep,decide_eq_false (fun q=>hc ((cmpD_lt dn u y).1 q))]
    rw [show P++(A++[y]++u::B++Z)=P++(A++[y]++u::(B++Z)) by simp]
    rfl
theorem ins_1 (dn:Bool) (F:Nat) (P Q:List FoundT) (b:Int):∀ (R:List FoundT) (f1:Nat) (S:List FoundT),1001+R.length < f1->S.length<=1000->b=((P.length+(S.length+R.length):Nat):Int)->S.Pairwise (LtF dn)->IdsF (S++R)->
 P.length+(S.length+(R.length+Q.length))<=1000->
 ∃ W,W.Perm (S++R)/\W.Pairwise (LtF dn)/\BinsG_1 F f1 (P.length:Int) b (ordD dn) ((P.length+S.length:Nat):Int) (P++(S++(R++Q)))=some (.tup [],[(70000,.larr 64 true 3 (.dat foundC (P++(W++Q))))])
 | [],f1,S,hf,_,hb,hs,hid,hl=>by
  obtain ⟨f1,rfl⟩:∃ k,f1=k+1:=⟨f1 - 1,by simp at hf; omega⟩
  refine ⟨S,by simp,hs,?_⟩
  rw [BinsG_1_eq]
  exact cond_f (decide_eq_false (by rw [hb]; simp)) rfl
 | u::R,f1,S,hf,h10,hb,hs,hid,hl=>by
  rw [List.length_cons] at hf hb hl
  obtain ⟨f1,rfl⟩:∃ k,f1=k+1:=⟨f1 - 1,by omega⟩
  have hid1:∀ z ∈ S,idF z≠idF u:=by
   have:=(List.pairwise_append.1 hid).2.2
   exact fun z hz=>this z hz u (by simp)
  obtain ⟨W,w1,w2,w3⟩:=ins_2 dn F f1 P (R++Q) u b ((P.length+S.length:Nat):Int) ⟨by omega,by omega⟩ S.length f1 S [] rfl (by omega) (by simpa using hs) (by simpa using hid1) (by simp) (by simp; omega)
  rw [List.nil_append] at w3
  have hp:(W++R).Perm (S++u::R):=by
   have:=w1.append_right R
   simpa using this
  have wl:W.length=S.length+1:=by have:=w1.length_eq; simpa using this
  obtain ⟨V,v1,v2,v3⟩:=ins_1 dn F P Q b R f1 W (by omega) (by omega) (by rw [hb,wl]; omega) w2 (IdsF.perm hid hp.symm) (by omega)
  refine ⟨V,v1.trans hp,v2,?_⟩
  rw [BinsG_1_eq]
  refine cond_t (decide_eq_true (by rw [hb]; omega)) ?_
  rw [List.cons_append,w3,show ((P.length+S.length:Nat):Int)+1=((P.length+W.length:Nat):Int) by rw [wl]; omega]
  exact v3
theorem insG_eq (dn:Bool) (a b:Int) (l:List FoundT) (h:insok (ordD dn) a b l):FinsG 2003 a b (ordD dn) l=some (.tup [],[(70000,.larr 64 true 3 (.dat foundC (sortR (ordD dn) a b l)))]):=by
 obtain ⟨_,h0,h1,h2,h3,h4⟩:=h
 obtain ⟨P,W,Q,rfl,hP,hW⟩:=seg_split l a.toNat b.toNat (by omega) (by omega)
 have hl:P.length+(W.length+Q.length)<=1000:=by simpa using h3
 rw [FinsG_eq]
 refine need_mk (by unfold i64ok; omega) ?_
 rw [sortR_app dn P W Q a b (by omega) (by omega)]
 cases W with
 | nil=>
  rw [show (2003:Nat)=2002+1 from rfl,BinsG_1_eq]
  exact cond_f (decide_eq_false (by simp at hW; omega)) (by rw [show msort dn []=[] by unfold msort; simp])
 | cons u W=>
  have hid:IdsF ([u]++W):=by
   have:=(List.pairwise_append.1 (List.pairwise_append.1 h4).2.1).1
   exact this
  rw [List.length_cons] at hW hl
  obtain ⟨V,v1,v2,v3⟩:=ins_1 dn 2003 P Q b W 2003 [u] (by omega) (by simp) (by simp; omega) (by simp) hid (by simp; omega)
  rw [show msort dn (u::W)=V from msort_of v1 v2,show a=(P.length:Int) by omega]
  rw [show ((P.length+[u].length:Nat):Int)=(P.length:Int)+1 by simp] at v3
  exact v3
end Go.Proofs.YtampckbjinodgaaGreatDoor
namespace Go.Proofs.YtampckbjinodgaaGreatDoor
open Go Go.Am
set_option linter.unusedVariables false
theorem LqG.cloF {fn:Fn} {xs ys:List AV} (h:LqGs xs ys):LqG (.clo fn xs []) (.clo fn ys []):=by
 intro γ M v hv
 cases hv with | clo _ _ _ vf vc hf hc h1 h2=>
 obtain ⟨hl,hg⟩:=h.get
 exact .clo _ _ _ _ _ (by rw [hf,hl]) hc (fun i hi=>hg i (by rw [hl]; exact hi) _ _ _ (h1 i (by rw [hl]; exact hi))) h2
theorem ord_lq {x:PV} {o:List (Elt ordC)} (h:pList ordC x=some o):LqG (.clo (.func 30) [.p x] []) (.clo (.func 30) [.p (.list 3 (.dat ordC o))] []):=
 LqG.cloF ⟨LqG.p (Lq.list (a:=ordC) h),trivial⟩
def sp_insG:RSpec:=⟨[false,true,true,true],fun args ib=>match args,ib with
 | [.arr 70000,.p (.int .i64 x),.p (.int .i64 y),.clo (.func 30) [.p ol] []],[(70000,.larr 64 true 3 R)]=>match pList ordC ol,pList foundC (.list 3 R) with
  | some o,some l=>some (([70000],.tup []),([(70000,.larr 64 true 3 (.dat foundC (sortR o x y l)))],some (insok o x y l)))
  | _,_=>none
 | _,_=>none⟩
theorem ok_insG:SpecROk Tryz.prog 82 sp_insG:=by
 intro args ib kept r outs ok he hok
 simp only [sp_insG] at he
 split at he
 .rename_i x y ol R
  split at he
  .rename_i o l ho hl
   cases he
   obtain ⟨rfl,_⟩:=pList_row hl
   obtain ⟨⟨dn,rfl⟩,_⟩:=id hok
   exact ⟨by kernel_rfl,FnR.lq (ys:=[.arr 70000,.p (.int .i64 x),.p (.int .i64 y),.clo (.func 30) [.p (.list 3 (.dat ordC (ordD dn)))] []]) ⟨LqG.refl _,LqG.refl _,LqG.refl _,ord_lq ho,trivial⟩
    (fn_insG 2003 x y (ordD dn) l _ _ fun _=>insG_eq dn x y l hok)⟩
  .cases he
 .cases he
def swapR (x y n:Int) (l:List FoundT):List FoundT:=l.take x.toNat++((l.drop y.toNat).take n.toNat++((l.take y.toNat).drop (x+n).toNat++((l.drop x.toNat).take n.toNat++l.drop (y+n).toNat)))
abbrev swapok (x y n:Int) (l:List FoundT):Prop:=0<=x/\0<=n/\x+n<=y/\y+n<=l.length/\l.length<=1000
theorem take_leftN {α:Type} {a b:List α} {n:Nat} (h:n=a.length):(a++b).take n=a:=List.take_left' h.symm
theorem drop_leftN {α:Type} {a b:List α} {n:Nat} (h:n=a.length):(a++b).drop n=b:=List.drop_left' h.symm
theorem swapR_app (P U M V Q:List FoundT) (x y n:Int) (hx:x=P.length) (hy:y=(P.length+(U.length+M.length):Nat)) (hn:n=U.length) (hv:V.length=U.length):
 swapR x y n (P++(U++(M++(V++Q))))=P++(V++(M++(U++Q))):=by
 subst hx; subst hy; subst hn
 unfold swapR
 have t1:((P.length:Int)+(U.length:Int)).toNat=P.length+U.length:=by omega
 have t2:(((P.length+(U.length+M.length):Nat):Int)+(U.length:Int)).toNat=P.length+(U.length+M.length)+U.length:=by omega
 rw [Int.toNat_natCast,Int.toNat_natCast,Int.toNat_natCast,t1,t2]
 have e:P++(U++(M++(V++Q)))=(P++(U++M))++(V++Q):=by simp
 have d1:(P++(U++(M++(V++Q)))).drop (P.length+(U.length+M.length))=V++Q:=by rw [e]; exact drop_leftN (by simp)
 have d2:(P++(U++(M++(V++Q)))).take (P.length+(U.length+M.length))=P++(U++M):=by rw [e]; exact take_leftN (by simp)
 have d3:(P++(U++M)).drop (P.length+U.length)=M:=by rw [<-List.append_assoc]; exact drop_leftN (by simp)
 have d4:(P++(U++(M++(V++Q)))).drop (P.length+(U.length+M.length)+U.length)=Q:=by
  rw [show P++(U++(M++(V++Q)))=(P++(U++(M++V)))++Q by simp]; exact drop_leftN (by simp; omega)
 rw [d1,d2,d3,d4,take_leftN rfl,drop_leftN rfl,take_leftN hv.symm,take_leftN rfl]
theorem swap_split (l:List FoundT) (x y n:Int) (h:swapok x y n l):∃ P U M V Q,l=P++(U++(M++(V++Q)))/\x=P.length/\y=(P.length+(U.length+M.length):Nat)/\n=U.length/\V.length=U.length:=by
 obtain ⟨h1,h2,h3,h4,h5⟩:=h
 obtain ⟨P,U,R,rfl,hP,hU⟩:=seg_split l x.toNat (x+n).toNat (by omega) (by omega)
 have hl:(P++(U++R)).length=P.length+(U.length+R.length):=by simp
 rw [hl] at h4 h5
 obtain ⟨M,V,Q,rfl,hM,hV⟩:=seg_split R (y - (x+n)).toNat (y - x).toNat (by omega) (by omega)
 exact ⟨P,U,M,V,Q,rfl,by omega,by omega,by omega,by omega⟩
noncomputable def cswpG:Code:=bodyOf Tryz.f146
noncomputable def GswpG:Cfg:=⟨Tryz.prog,mkEnv [],mkEnvR [],38,[70000],[([0,1],⟨[0,1,2,3,10],[⟨.fix 70000,70000,.cells []⟩]⟩),([1,1,0,0,1],⟨[0,1,2,3,10],[⟨.fix 70000,70000,.cells []⟩]⟩)],[]⟩
noncomputable def BswpG_1 (F f1:Nat) (x y n vi1:Int) (vl2:List FoundT):Option Ans:=runR GswpG cswpG (kR Tryz.prog [70000] ⟨[],[⟨.fix 70000,70000,.cells []⟩]⟩ [70000] Tryz.f146.results.toList) F [] [1,0] f1 [(0,.arr 70000),(1,.p (.int .i64 x)),(2,.p (.int .i64 y)),(3,.p (.int .i64 n)),(10,.p (.int .i64 vi1))] [(70000,.larr 64 true 3 (.dat foundC vl2))]
noncomputable def BswpG_2 (F f1:Nat) (x y n vi1:Int) (vl3:List FoundT):Option Ans:=runB GswpG cswpG (kR Tryz.prog [70000] ⟨[],[⟨.fix 70000,70000,.cells []⟩]⟩ [70000] Tryz.f146.results.toList) F [f1] [1,0,0,1,1] [(0,.arr 70000),(1,.p (.int .i64 x)),(2,.p (.int .i64 y)),(3,.p (.int .i64 n)),(10,.p (.int .i64 vi1))] [(70000,.larr 64 true 3 (.dat foundC vl3))]
noncomputable def FswpG (F:Nat) (x y n:Int) (o:List (Elt ordC)) (l:List FoundT):Option Ans:=runFR GswpG Tryz.f146 ⟨[],[⟨.fix 70000,70000,.cells []⟩]⟩ [70000] F [.arr 70000,.p (.int .i64 x),.p (.int .i64 y),.p (.int .i64 n),.clo (.func 30) [.p (.list 3 (.dat (.pair (.int .i64) (.pair .str .bool)) o))] []] [(70000,.larr 64 true 3 (.dat foundC l))]
theorem BswpG_1_eq (F f1:Nat) (x y n vi1:Int) (vl2:List FoundT):BswpG_1 F (f1+1) x y n vi1 vl2=cond (decide (vi1 < n)) (need (i64ok (x+vi1)) (need (i64ok (y+vi1)) (need (i64ok (y+vi1)) (need (0<=(y+vi1)/\(y+vi1) < (vl2.length:Int)) (need ((y+vi1).toNat < vl2.length) (need (i64ok (x+vi1)) (need (0<=(x+vi1)/\(x+vi1) < (vl2.length:Int)) (need ((x+vi1).toNat < vl2.length) (need (0<=(x+vi1)/\(x+vi1) < (vl2.length:Int)) (need ((x+vi1).toNat < vl2.length) (need (0<=(y+vi1)/\(y+vi1) < ((vl2.set ((x+vi1).toNat) (((vl2.getD ((y+vi1).toNat) ((((0:Int),((0:Int),([],((0:Int),([],([],((0:Int),(0:Int)))))))),([],[])),([],[]))).1),((((vl2.getD ((y+vi1).toNat) ((((0:Int),((0:Int),([],((0:Int),([],([],((0:Int),(0:Int)))))))),([],[])),([],[]))).2).1),(((vl2.getD ((y+vi1).toNat) ((((0:Int),((0:Int),([],((0:Int),([],([],((0:Int),(0:Int)))))))),([],[])),([],[]))).2).2)))).length:Int)) (need ((y+vi1).toNat < (vl2.set ((x+vi1).toNat) (((vl2.getD ((y+vi1).toNat) ((((0:Int),((0:Int),([],((0:Int),([],([],((0:Int),(0:Int)))))))),([],[])),([],[]))).1),((((vl2.getD ((y+vi1).toNat) ((((0:Int),((0:Int),([],((0:Int),([],([],((0:Int),(0:Int)))))))),([],[])),([],[]))).2).1),(((vl2.getD ((y+vi1).toNat) ((((0:Int),((0:Int),([],((0:Int),([],([],((0:Int),(0:Int)))))))),([],[])),([],[]))).2).2)))).length) (BswpG_2 F f1 x y n vi1 ((vl2.set ((x+vi1).toNat) (((vl2.getD ((y+vi1).toNat) ((((0:Int),((0:Int),([],((0:Int),([],([],((0:Int),(0:Int)))))))),([],[])),([],[]))).1),((((vl2.getD ((y+vi1).toNat) ((((0:Int),((0:Int),([],((0:Int),([],([],((0:Int),(0:Int)))))))),([],[])),([],[]))).2).1),(((vl2.getD ((y+vi1).toNat) ((((0:Int),((0:Int),([],((0:Int),([],([],((0:Int),(0:Int)))))))),([],[])),([],[]))).2).2)))).set ((y+vi1).toNat) (((vl2.getD ((x+vi1).toNat) ((((0:Int),((0:Int),([],((0:Int),([],([],((0:Int),(0:Int)))))))),([],[])),([],[]))).1),((((vl2.getD ((x+vi1).toNat) ((((0:Int),((0:Int),([],((0:Int),([],([],((0:Int),(0:Int)))))))),([],[])),([],[]))).2).1),(((vl2.getD ((x+vi1).toNat) ((((0:Int),((0:Int),([],((0:Int),([],([],((0:Int),(0:Int)))))))),([],[])),([],[]))).2).2))))))))))))))))) (some (.tup [],[(70000,.larr 64 true 3 (.dat foundC vl2))])):=by kernel_rfl
theorem BswpG_2_eq (F f1:Nat) (x y n vi1:Int) (vl3:List FoundT):BswpG_2 F f1 x y n vi1 vl3=need (i64ok (vi1+(1:Int))) (BswpG_1 F f1 x y n (vi1+(1:Int)) vl3):=by kernel_rfl
theorem FswpG_eq (F:Nat) (x y n:Int) (o:List (Elt ordC)) (l:List FoundT):FswpG F x y n o l=BswpG_1 F F x y n (0:Int) l:=by kernel_rfl
theorem fn_swpG (F:Nat) (x y n:Int) (o:List (Elt ordC)) (l:List FoundT) (r:AV) (os:List (Nat×AObj)) (h:(∃ γ M w vs,ARels γ M [.arr 70000,.p (.int .i64 x),.p (.int .i64 y),.p (.int .i64 n),.clo (.func 30) [.p (.list 3 (.dat (.pair (.int .i64) (.pair .str .bool)) o))] []] vs/\Objs γ M w (fun i=>lookO i [(70000,.larr 64 true 3 (.dat foundC l))]) (fun b=>b < w.heap.size))->FswpG F x y n o l=some (r,os)):FnR Tryz.prog 146 [.arr 70000,.p (.int .i64 x),.p (.int .i64 y),.p (.int .i64 n),.clo (.func 30) [.p (.list 3 (.dat (.pair (.int .i64) (.pair .str .bool)) o))] []] [(70000,.larr 64 true 3 (.dat foundC l))] [70000] r os:=
 FnR_run GswpG ⟨[],[⟨.fix 70000,70000,.cells []⟩]⟩ [70000] F rfl (EnvOk_mk (l:=[]) trivial) (EnvROk_mk (l:=[]) trivial) (Checked.mixed Tryz.checked) (fn:=Tryz.f146) (by kernel_rfl) (by kernel_rfl) rfl h
theorem swp_1 (F:Nat) (P M Q:List FoundT) (n:Int):∀ (U2 V2:List FoundT) (f1:Nat) (U1 V1:List FoundT),U2.length < f1->V2.length=U2.length->V1.length=U1.length->n=(U1.length+U2.length:Nat)->
 P.length+(V1.length+(U2.length+(M.length+(U1.length+(V2.length+Q.length)))))<=1000->
 BswpG_1 F f1 (P.length:Int) ((P.length+(U1.length+U2.length+M.length):Nat):Int) n (U1.length:Int) (P++(V1++(U2++(M++(U1++(V2++Q))))))=
  some (.tup [],[(70000,.larr 64 true 3 (.dat foundC (P++(V1++(V2++(M++(U1++(U2++Q))))))))])
 | [],V2,f1,U1,V1,hf,hv,hu,hn,hl=>by
  obtain ⟨f1,rfl⟩:∃ k,f1=k+1:=⟨f1 - 1,by omega⟩
  have:V2=[]:=List.eq_nil_of_length_eq_zero hv
  subst this
  rw [BswpG_1_eq]
  exact cond_f (decide_eq_false (by rw [hn]; simp)) rfl
 | u::U2,[],f1,U1,V1,hf,hv,hu,hn,hl=>by simp at hv
 | u::U2,v::V2,f1,U1,V1,hf,hv,hu,hn,hl=>by
  obtain ⟨f1,rfl⟩:∃ k,f1=k+1:=⟨f1 - 1,by omega⟩
  simp only [List.length_cons] at hf hv hn hl
  have e0:P++(V1++(u::U2++(M++(U1++(v::V2++Q)))))=(P++V1)++u::(U2++(M++(U1++(v::(V2++Q))))):=by simp
  have e1:P++(V1++(u::U2++(M++(U1++(v::V2++Q)))))=(P++(V1++(u::U2++(M++U1))))++v::(V2++Q):=by simp
  have el:(P++(V1++(u::U2++(M++(U1++(v::V2++Q)))))).length=P.length+(V1.length+(U2.length+1+(M.length+(U1.length+(V2.length+1+Q.length))))):=by simp; omega
  have tx:((P.length:Int)+(U1.length:Int)).toNat=P.length+U1.length:=by omega
  have ty:(((P.length+(U1.length+(u::U2).length+M.length):Nat):Int)+(U1.length:Int)).toNat=P.length+(U1.length+(U2.length+1)+M.length)+U1.length:=by simp; omega
  have g0:∀ d,(P++(V1++(u::U2++(M++(U1++(v::V2++Q)))))).getD (P.length+U1.length) d=u:=fun d=>by rw [e0]; exact getD_midF (by simp; omega) d
  have g1:∀ d,(P++(V1++(u::U2++(M++(U1++(v::V2++Q)))))).getD (P.length+(U1.length+(U2.length+1)+M.length)+U1.length) d=v:=fun d=>by rw [e1]; exact getD_midF (by simp; omega) d
  rw [BswpG_1_eq,tx,ty]
  simp only [g0,g1,Prod.eta,List.length_set]
  refine cond_t (decide_eq_true (by rw [hn]; omega)) ?_
  have hy:((P.length+(U1.length+(u::U2).length+M.length):Nat):Int)=((P.length+(U1.length+(U2.length+1)+M.length):Nat):Int):=by simp
  rw [hy]
  iterate 3 refine need_mk (by unfold i64ok; omega) ?_
  refine need_mk (by rw [el]; omega) (need_mk (by rw [el]; omega) (need_mk (by unfold i64ok; omega) ?_))
  iterate 3 refine need_mk (by rw [el]; omega) (need_mk (by rw [el]; omega) ?_)
  rw [BswpG_2_eq]
  refine need_mk (by unfold i64ok; omega) ?_
  have es:((P++(V1++(u::U2++(M++(U1++(v::V2++Q)))))).set (P.length+U1.length) v).set (P.length+(U1.length+(U2.length+1)+M.length)+U1.length) u=P++((V1++[v])++(U2++(M++((U1++[u])++(V2++Q))))):=by
   rw [e0,set_midF (by simp; omega),show (P++V1)++v::(U2++(M++(U1++(v::(V2++Q)))))=(P++(V1++(v::U2++(M++U1))))++v::(V2++Q) by simp,set_midF (by simp; omega)]
   simp
  have ih:=swp_1 F P M Q n U2 V2 f1 (U1++[u]) (V1++[v]) (by omega) (by omega) (by simp; omega) (by rw [hn]; simp; omega) (by simp; omega)
  rw [es]
  have e3:((P.length+((U1++[u]).length+U2.length+M.length):Nat):Int)=((P.length+(U1.length+(U2.length+1)+M.length):Nat):Int):=by simp; omega
  have e4:(((U1++[u]).length:Nat):Int)=(U1.length:Int)+1:=by simp
  rw [e3,e4] at ih
  rw [ih]
  simp
theorem swpG_eq (x y n:Int) (o:List (Elt ordC)) (l:List FoundT) (h:swapok x y n l):FswpG 1001 x y n o l=some (.tup [],[(70000,.larr 64 true 3 (.dat foundC (swapR x y n l)))]):=by
 obtain ⟨P,U,M,V,Q,rfl,hx,hy,hn,hv⟩:=swap_split l x y n h
 have hl:=h.2.2.2.2
 simp only [List.length_append] at hl
 rw [FswpG_eq,swapR_app P U M V Q x y n hx hy hn hv]
 have:=swp_1 1001 P M Q n U V 1001 [] [] (by omega) hv rfl (by rw [hn]; simp) (by simp; omega)
 rw [hx,hy]
 simpa using this
def sp_swpG:RSpec:=⟨[false,true,true,true,true],fun args ib=>match args,ib with
 | [.arr 70000,.p (.int .i64 x),.p (.int .i64 y),.p (.int .i64 n),.clo (.func 30) [.p ol] []],[(70000,.larr 64 true 3 R)]=>match pList ordC ol,pList foundC (.list 3 R) with
  | some _,some l=>some (([70000],.tup []),([(70000,.larr 64 true 3 (.dat foundC (swapR x y n l)))],some (swapok x y n l)))
  | _,_=>none
 | _,_=>none⟩
theorem ok_swpG:SpecROk Tryz.prog 146 sp_swpG:=by
 intro args ib kept r outs ok he hok
 simp only [sp_swpG] at he
 split at he
 .rename_i x y n ol R
  split at he
  .rename_i o l ho hl
   cases he
   obtain ⟨rfl,_⟩:=pList_row hl
   exact ⟨by kernel_rfl,FnR.lq (ys:=[.arr 70000,.p (.int .i64 x),.p (.int .i64 y),.p (.int .i64 n),.clo (.func 30) [.p (.list 3 (.dat ordC o))] []]) ⟨LqG.refl _,LqG.refl _,LqG.refl _,LqG.refl _,ord_lq ho,trivial⟩
    (fn_swpG 1001 x y n o l _ _ fun _=>swpG_eq x y n o l hok)⟩
  .cases he
 .cases he
def rotR (a m b:Int) (l:List FoundT):List FoundT:=l.take a.toNat++((l.take b.toNat).drop m.toNat++((l.take m.toNat).drop a.toNat++l.drop b.toNat))
abbrev rotok (a m b:Int) (l:List FoundT):Prop:=0<=a/\a < m/\m < b/\b<=l.length/\l.length<=1000
theorem rotR_app (P A B Q:List FoundT) (a m b:Int) (ha:a=P.length) (hm:m=(P.length+A.length:Nat)) (hb:b=(P.length+A.length+B.length:Nat)):rotR a m b (P++(A++(B++Q)))=P++(B++(A++Q)):=by
 subst ha; subst hm; subst hb
 unfold rotR
 rw [Int.toNat_natCast,Int.toNat_natCast,Int.toNat_natCast]
 have e1:(P++(A++(B++Q))).take (P.length+A.length+B.length)=(P++A)++B:=by rw [show P++(A++(B++Q))=((P++A)++B)++Q by simp]; exact take_leftN (by simp; omega)
 have e2:(P++(A++(B++Q))).drop (P.length+A.length+B.length)=Q:=by rw [show P++(A++(B++Q))=((P++A)++B)++Q by simp]; exact drop_leftN (by simp; omega)
 have e3:(P++(A++(B++Q))).take (P.length+A.length)=P++A:=by rw [show P++(A++(B++Q))=(P++A)++(B++Q) by simp]; exact take_leftN (by simp)
 rw [e1,e2,e3,drop_leftN (by simp),drop_leftN rfl,take_leftN rfl]
noncomputable def crotG:Code:=bodyOf Tryz.f118
noncomputable def GrotG:Cfg:=⟨Tryz.prog,mkEnv [],mkEnvR [(146,sp_swpG)],58,[70000],[([0,0,1,1],⟨[0,2,4,10,11],[⟨.fix 70000,70000,.cells []⟩]⟩)],[([0,0,1,0,1,0,0,0,1,1],[7]),([0,1,1,0,1,0,0,0,1,1],[11]),([1,1,1],[7])]⟩
noncomputable def BrotG_1 (F f1:Nat) (y:Int) (vl1:List (Int×List UInt8×Bool)) (vi2 vi3:Int) (vl4:List FoundT):Option Ans:=runR GrotG crotG (kR Tryz.prog [70000] ⟨[],[⟨.fix 70000,70000,.cells []⟩]⟩ [70000] Tryz.f118.results.toList) F [] [1,1,0,0] f1 [(0,.arr 70000),(2,.p (.int .i64 y)),(4,.clo (.func 30) [.p (.list 3 (.dat (.pair (.int .i64) (.pair .str .bool)) vl1))] []),(10,.p (.int .i64 vi2)),(11,.p (.int .i64 vi3))] [(70000,.larr 64 true 3 (.dat foundC vl4))]
noncomputable def FrotG (F:Nat) (x y n:Int) (o:List (Elt ordC)) (l:List FoundT):Option Ans:=runFR GrotG Tryz.f118 ⟨[],[⟨.fix 70000,70000,.cells []⟩]⟩ [70000] F [.arr 70000,.p (.int .i64 x),.p (.int .i64 y),.p (.int .i64 n),.clo (.func 30) [.p (.list 3 (.dat (.pair (.int .i64) (.pair .str .bool)) o))] []] [(70000,.larr 64 true 3 (.dat foundC l))]
theorem BrotG_1_eq (F f1:Nat) (y:Int) (vl1:List (Int×List UInt8×Bool)) (vi2 vi3:Int) (vl4:List FoundT):BrotG_1 F (f1+1) y vl1 vi2 vi3 vl4=cond (vi2 != vi3) (cond (decide (vi2 > vi3)) (need (i64ok (y - vi2)) (need (swapok (y - vi2) y vi3 vl4) (need (i64ok (vi2 - vi3)) (BrotG_1 F f1 y vl1 (vi2 - vi3) vi3 (swapR (y - vi2) y vi3 vl4))))) (need (i64ok (y - vi2)) (need (i64ok (y+vi3)) (need (i64ok ((y+vi3) - vi2)) (need (swapok (y - vi2) ((y+vi3) - vi2) vi2 vl4) (need (i64ok (vi3 - vi2)) (BrotG_1 F f1 y vl1 vi2 (vi3 - vi2) (swapR (y - vi2) ((y+vi3) - vi2) vi2 vl4)))))))) (need (i64ok (y - vi2)) (need (swapok (y - vi2) y vi2 vl4) (some (.tup [],[(70000,.larr 64 true 3 (.dat foundC (swapR (y - vi2) y vi2 vl4)))])))):=by kernel_rfl
theorem FrotG_eq (F:Nat) (x y n:Int) (o:List (Elt ordC)) (l:List FoundT):FrotG F x y n o l=need (i64ok (y - x)) (need (i64ok (n - y)) (BrotG_1 F F y o (y - x) (n - y) l)):=by kernel_rfl
theorem fn_rotG (F:Nat) (x y n:Int) (o:List (Elt ordC)) (l:List FoundT) (r:AV) (os:List (Nat×AObj)) (h:(∃ γ M w vs,ARels γ M [.arr 70000,.p (.int .i64 x),.p (.int .i64 y),.p (.int .i64 n),.clo (.func 30) [.p (.list 3 (.dat (.pair (.int .i64) (.pair .str .bool)) o))] []] vs/\Objs γ M w (fun i=>lookO i [(70000,.larr 64 true 3 (.dat foundC l))]) (fun b=>b < w.heap.size))->FrotG F x y n o l=some (r,os)):FnR Tryz.prog 118 [.arr 70000,.p (.int .i64 x),.p (.int .i64 y),.p (.int .i64 n),.clo (.func 30) [.p (.list 3 (.dat (.pair (.int .i64) (.pair .str .bool)) o))] []] [(70000,.larr 64 true 3 (.dat foundC l))] [70000] r os:=
 FnR_run GrotG ⟨[],[⟨.fix 70000,70000,.cells []⟩]⟩ [70000] F rfl (EnvOk_mk (l:=[]) trivial) (EnvROk_mk (l:=[(146,sp_swpG)]) ⟨ok_swpG,trivial⟩) (Checked.mixed Tryz.checked) (fn:=Tryz.f118) (by kernel_rfl) (by kernel_rfl) rfl h
theorem rot_1 (F:Nat) (o:List (Elt ordC)) (m:Int):∀ (f1:Nat) (P A B Q:List FoundT),A.length+B.length < f1->0 < A.length->0 < B.length->m=(P.length+A.length:Nat)->P.length+(A.length+(B.length+Q.length))<=1000->
 BrotG_1 F f1 m o (A.length:Int) (B.length:Int) (P++(A++(B++Q)))=some (.tup [],[(70000,.larr 64 true 3 (.dat foundC (P++(B++(A++Q)))))]):=by
 intro f1
 induction f1 with
 | zero=>intro P A B Q hf; omega
 | succ f1 ih=>
  intro P A B Q hf ha hb hm hl
  have el:((P++(A++(B++Q))).length:Int)=P.length+(A.length+(B.length+Q.length)):=by simp
  have el':(P++(A++(B++Q))).length=P.length+(A.length+(B.length+Q.length)):=by simp
  rw [BrotG_1_eq]
  by_cases hc:A.length=B.length
  .refine cond_f (by rw [bne_eq_false_iff_eq]; omega) (need_mk (by unfold i64ok; omega) (need_mk ⟨by omega,by omega,by omega,by rw [el]; omega,by rw [el']; omega⟩ ?_))
   rw [show P++(A++(B++Q))=P++(A++([]++(B++Q))) by simp,swapR_app P A [] B Q _ _ _ (by omega) (by simp; omega) rfl hc.symm]
   simp
  .refine cond_t (bne_iff_ne.2 (by omega)) ?_
   by_cases hg:B.length < A.length
   .refine cond_t (decide_eq_true (by omega)) (need_mk (by unfold i64ok; omega) (need_mk ⟨by omega,by omega,by omega,by rw [el]; omega,by rw [el']; omega⟩ (need_mk (by unfold i64ok; omega) ?_)))
    obtain ⟨A1,A2,rfl,h1⟩:∃ A1 A2,A=A1++A2/\A1.length=B.length:=⟨A.take B.length,A.drop B.length,by simp,by rw [List.length_take]; omega⟩
    rw [List.length_append] at hf hl hm hg
    rw [show P++(A1++A2++(B++Q))=P++(A1++(A2++(B++Q))) by simp,swapR_app P A1 A2 B Q _ _ _ (by simp; omega) (by omega) (by omega) h1.symm,
     show P++(B++(A2++(A1++Q)))=(P++B)++(A2++(A1++Q)) by simp,show (((A1++A2).length:Nat):Int) - (B.length:Int)=(A2.length:Int) by simp; omega,show (B.length:Int)=(A1.length:Int) by omega]
    rw [ih (P++B) A2 A1 Q (by omega) (by omega) (by omega) (by simp; omega) (by simp; omega)]
    simp
   .refine cond_f (decide_eq_false (by omega)) (need_mk (by unfold i64ok; omega) (need_mk (by unfold i64ok; omega) (need_mk (by unfold i64ok; omega) (need_mk ⟨by omega,by omega,by omega,by rw [el]; omega,by rw [el']; omega⟩ (need_mk (by unfold i64ok; omega) ?_)))))
    obtain ⟨B1,B2,rfl,h1⟩:∃ B1 B2,B=B1++B2/\B2.length=A.length:=⟨B.take (B.length - A.length),B.drop (B.length - A.length),by simp,by rw [List.length_drop]; omega⟩
    rw [List.length_append] at hf hl hb hc hg
    rw [show P++(A++(B1++B2++Q))=P++(A++(B1++(B2++Q))) by simp,swapR_app P A B1 B2 Q _ _ _ (by omega) (by simp; omega) rfl h1,
     show P++(B2++(B1++(A++Q)))=P++(B2++(B1++(A++Q))) from rfl,show (((B1++B2).length:Nat):Int) - (A.length:Int)=(B1.length:Int) by simp; omega,show (A.length:Int)=(B2.length:Int) by omega]
    rw [ih P B2 B1 (A++Q) (by omega) (by omega) (by omega) (by omega) (by simp; omega)]
    simp
theorem rot_split (l:List FoundT) (a m b:Int) (h:rotok a m b l):∃ P A B Q,l=P++(A++(B++Q))/\a=P.length/\m=(P.length+A.length:Nat)/\b=(P.length+A.length+B.length:Nat):=by
 obtain ⟨h1,h2,h3,h4,h5⟩:=h
 obtain ⟨P,A,R,rfl,hP,hA⟩:=seg_split l a.toNat m.toNat (by omega) (by omega)
 have hl:(P++(A++R)).length=P.length+(A.length+R.length):=by simp
 rw [hl] at h4
 exact ⟨P,A,R.take (b - m).toNat,R.drop (b - m).toNat,by simp,by omega,by omega,by rw [List.length_take]; omega⟩
theorem rotG_eq (a m b:Int) (o:List (Elt ordC)) (l:List FoundT) (h:rotok a m b l):FrotG 1001 a m b o l=some (.tup [],[(70000,.larr 64 true 3 (.dat foundC (rotR a m b l)))]):=by
 obtain ⟨P,A,B,Q,rfl,ha,hm,hb⟩:=rot_split l a m b h
 obtain ⟨h1,h2,h3,h4,h5⟩:=h
 simp only [List.length_append] at h5
 rw [FrotG_eq,rotR_app P A B Q a m b ha hm hb]
 refine need_mk (by unfold i64ok; omega) (need_mk (by unfold i64ok; omega) ?_)
 rw [show m - a=(A.length:Int) by omega,show b - m=(B.length:Int) by omega]
 exact rot_1 1001 o m 1001 P A B Q (by omega) (by omega) (by omega) hm (by omega)
def sp_rotG:RSpec:=⟨[false,true,true,true,true],fun args ib=>match args,ib with
 | [.arr 70000,.p (.int .i64 x),.p (.int .i64 y),.p (.int .i64 n),.clo (.func 30) [.p ol] []],[(70000,.larr 64 true 3 R)]=>match pList ordC ol,pList foundC (.list 3 R) with
  | some _,some l=>some (([70000],.tup []),([(70000,.larr 64 true 3 (.dat foundC (rotR x y n l)))],some (rotok x y n l)))
  | _,_=>none
 | _,_=>none⟩
theorem ok_rotG:SpecROk Tryz.prog 118 sp_rotG:=by
 intro args ib kept r outs ok he hok
 simp only [sp_rotG] at he
 split at he
 .rename_i x y n ol R
  split at he
  .rename_i o l ho hl
   cases he
   obtain ⟨rfl,_⟩:=pList_row hl
   exact ⟨by kernel_rfl,FnR.lq (ys:=[.arr 70000,.p (.int .i64 x),.p (.int .i64 y),.p (.int .i64 n),.clo (.func 30) [.p (.list 3 (.dat ordC o))] []]) ⟨LqG.refl _,LqG.refl _,LqG.refl _,LqG.refl _,ord_lq ho,trivial⟩
    (fn_rotG 1001 x y n o l _ _ fun _=>rotG_eq x y n o l hok)⟩
  .cases he
 .cases he
end Go.Proofs.YtampckbjinodgaaGreatDoor
