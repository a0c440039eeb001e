/-
  Lifted functions, and facts about them.
-/
import Derived.Test.YtampckbjinodgaaGreatDoorRows
import Derived.Test.YtampckbjinodgaaGreatDoorC01
import Derived.Test.YtampckbjinodgaaGreatDoorAmC
import Derived.Test.YtampckbjinodgaaGreatDoorC21
import Derived.Deep.Slices
import Derived.Carry
import Derived.Handed
import Derived.Shelf.Vars
import Derived.WalkKit
import Derived.ProofKit
import Derived.OpenShut
import Derived.Lib.LaidTab
import Derived.Deep.DeepHandedRow
set_option linter.unusedVariables false
noncomputable section
namespace Go.Proofs.YtampckbjinodgaaGreatDoor
open Go Go.Am
def zfT:List zq->Int->Int->Int
 | [],_,t=>t
 | m::r,id,t=>if m.1==id then m.2.1 else zfT r id t
theorem zpP:∀ (a:List zq) (m:zq) (id t:Int),zfT (a++[m]) id t=zfT a id (if m.1==id then m.2.1 else t)
 | [],m,id,t=>rfl
 | x::a,m,id,t=>by
  rw[List.cons_append,zfT,zfT,zpP a m id t]
theorem zTQ(a b:Int):(a==b)=(b==a):=by rw[Bool.eq_iff_iff,beq_iff_eq,beq_iff_eq];exact eq_comm
theorem zps{e:Ec}{a b:List (Int×Elt e)}{k:Int}:zX (a++b) k=(zX a k||zX b k):=by simp[zX]
theorem zpt:∀ (a b:List (Int×Int)) (k:Int),yE (e:=.int .i64) (a++b) k=if zX (e:=.int .i64) a k=true then yE (e:=.int .i64) a k else yE (e:=.int .i64) b k
 | [],b,k=>by rw[List.nil_append,if_neg (by simp[zX])]
 | p::r,b,k=>by
  have ih:=zpt r b k
  rw[List.cons_append,yE,yE,zX,List.any_cons]
  cases hk:k==p.1 with
  | true=>rw[Bool.true_or,if_pos rfl]
  | false=>rw[Bool.false_or];exact ih
theorem zk7:∀ (l:List zq) (acc:List (Int×Int)) (k:Int),zX (e:=.int .i64) (zfY l acc) k=(zX (e:=.int .i64) acc k||l.any fun m=>m.1==k)/\
 yE (e:=.int .i64) (zfY l acc) k=if zX (e:=.int .i64) acc k=true then yE (e:=.int .i64) acc k else zfT l k 0
 | [],acc,k=>by
  refine⟨by rw[zfY,List.any_nil,Bool.or_false],?_⟩
  rw[zfY,zfT]
  by_cases h:zX (e:=.int .i64) acc k=true
  .rw [if_pos h]
  .rw [if_neg h]
   have:∀ a:List (Int×Int),zX (e:=.int .i64) a k=false->yE (e:=.int .i64) a k=0:=by
    intro a
    induction a with
    | nil=>intro _;rfl
    | cons p r ih=>
     intro h
     rw[zX,List.any_cons,Bool.or_eq_false_iff]at h
     rw[yE,h.1]
     exact ih h.2
   exact this acc (by simpa using h)
 | m::r,acc,k=>by
  rw[zfY,zfT,List.any_cons]
  by_cases hm:zX (e:=.int .i64) acc m.1=true
  .rw [if_pos hm]
   obtain⟨h1,h2⟩:=zk7 r acc k
   by_cases hk:m.1=k
   .subst hk
    rw[h1,h2,hm]
    exact⟨by simp,by simp⟩
   .have e:(m.1==k)=false:=beq_eq_false_iff_ne.2 hk
    rw[h1,h2,e,Bool.false_or]
    exact⟨rfl,by simp⟩
  .have hm0:zX (e:=.int .i64) acc m.1=false:=by simpa using hm
   rw[if_neg hm]
   obtain⟨h1,h2⟩:=zk7 r (acc++[(m.1,m.2.1)]) k
   have e1:zX (e:=.int .i64) [(m.1,m.2.1)] k=(m.1==k):=by
    rw[zTQ];simp[zX]
   rw[h1,h2,zps,zpt,e1]
   refine⟨by rw[Bool.or_assoc],?_⟩
   by_cases hk:m.1=k
   .subst hk
    have e2:yE (e:=.int .i64) [(m.1,m.2.1)] m.1=m.2.1:=by simp[yE]
    rw[hm0,e2]
    simp
   .have e:(m.1==k)=false:=beq_eq_false_iff_ne.2 hk
    rw[e,Bool.or_false]
    by_cases hac:zX (e:=.int .i64) acc k=true
    .rw [if_pos hac,if_pos hac,if_pos hac]
    .rw [if_neg hac,if_neg hac];simp
def zas:=mkG [(33,zit)] [] 78 [] [([0,1,0,1,1],⟨[0,1,5,6,7],[⟨.slot 5,5,(.larr 3 false 1 (.dat (.int .i64) ([]:List Int)))⟩,⟨.slot 6,6,(.larr 3 false 1 (.dat (.int .i64) ([]:List Int)))⟩]⟩),([0,1,0,1,0,0,1,0,0,1,0,1,1],⟨[0,1,5,6,7,8,9],[⟨.slot 5,5,(.larr 3 false 1 (.dat (.int .i64) ([]:List Int)))⟩,⟨.slot 6,6,(.larr 3 false 1 (.dat (.int .i64) ([]:List Int)))⟩]⟩),([1,0,0,1,0,0,1,0,1,0,0,1,0,0,1,0,1,1],⟨[0,1,5,6,7,8,9,34],[⟨.slot 5,5,(.larr 3 false 1 (.dat (.int .i64) ([]:List Int)))⟩,⟨.slot 6,6,(.larr 3 false 1 (.dat (.int .i64) ([]:List Int)))⟩]⟩),([1,1,0,0,1,0,1,0,0,1,0,0,1,0,1,1],⟨[0,1,5,6,7,8,9],[⟨.slot 5,5,(.larr 3 false 1 (.dat (.int .i64) ([]:List Int)))⟩,⟨.slot 6,6,(.larr 3 false 1 (.dat (.int .i64) ([]:List Int)))⟩]⟩),([0,1,0,1,1,1,0,0,1,0,0,1,0,1,1],⟨[0,1,5,6,7,8,10,11],[⟨.slot 5,5,(.larr 3 false 1 (.dat (.int .i64) ([]:List Int)))⟩,⟨.slot 6,6,(.larr 3 false 1 (.dat (.int .i64) ([]:List Int)))⟩]⟩),([1,1,0,0,1,0,1,1,1,0,0,1,0,0,1,0,1,1],⟨[0,1,5,6,7,8,10,11],[⟨.slot 5,5,(.larr 3 false 1 (.dat (.int .i64) ([]:List Int)))⟩,⟨.slot 6,6,(.larr 3 false 1 (.dat (.int .i64) ([]:List Int)))⟩]⟩),([1,1,1,1,1,1,0,0,1,0,0,1,0,1,1],⟨[0,1,5,6,7],[⟨.slot 5,5,(.larr 3 false 1 (.dat (.int .i64) ([]:List Int)))⟩,⟨.slot 6,6,(.larr 3 false 1 (.dat (.int .i64) ([]:List Int)))⟩]⟩),([1,1,0,0,1,0,1,1],⟨[0,1,5,6,7],[⟨.slot 5,5,(.larr 3 false 1 (.dat (.int .i64) ([]:List Int)))⟩,⟨.slot 6,6,(.larr 3 false 1 (.dat (.int .i64) ([]:List Int)))⟩]⟩)] []
def zc8(F f1:Nat)(l:List zq)(ids:List Int)(vi1:Int)(vl2 vl3:List Int):=zH zas Tryz.f20 F [] [1,1,0,1,0] f1 [(0,pL 8 zE l),(1,pL 1 (.int .i64) ids),(5,.arr 5),(6,.arr 6),(7,pI vi1)] [(5,.larr 3 false 1 (.dat (.int .i64) vl2)),(6,.larr 3 false 1 (.dat (.int .i64) vl3))]
def zc7(F f1 f2:Nat)(l:List zq)(ids:List Int)(vi1 vi4 vi5:Int)(vl2 vl3:List Int):=zH zas Tryz.f20 F [f1] [1,1,0,1,0,0,1,0,0,1,0,1,0] f2 [(0,pL 8 zE l),(1,pL 1 (.int .i64) ids),(5,.arr 5),(6,.arr 6),(7,pI vi1),(8,pI vi4),(9,pI vi5)] [(5,.larr 3 false 1 (.dat (.int .i64) vl2)),(6,.larr 3 false 1 (.dat (.int .i64) vl3))]
def zku(F f1 f2:Nat)(l:List zq)(ids:List Int)(vi1 vi4 vi5:Int)(vc6:Bool)(vl2 vl3:List Int):=zx zas Tryz.f20 F [f1,f2] [1,1,0,1,0,0,1,0,0,1,0,1,0,0,1,0,0,1] [(0,pL 8 zE l),(1,pL 1 (.int .i64) ids),(5,.arr 5),(6,.arr 6),(7,pI vi1),(8,pI vi4),(9,pI vi5),(34,pB vc6)] [(5,.larr 3 false 1 (.dat (.int .i64) vl2)),(6,.larr 3 false 1 (.dat (.int .i64) vl3))]
def zc6(F f1 f2:Nat)(l:List zq)(ids:List Int)(vi1 vi7 vi5:Int)(vl2 vl3:List Int):=zx zas Tryz.f20 F [f1,f2] [1,1,0,1,0,0,1,0,0,1,0,1,0,0,1,1] [(0,pL 8 zE l),(1,pL 1 (.int .i64) ids),(5,.arr 5),(6,.arr 6),(7,pI vi1),(8,pI vi7),(9,pI vi5)] [(5,.larr 3 false 1 (.dat (.int .i64) vl2)),(6,.larr 3 false 1 (.dat (.int .i64) vl3))]
def zaG(F f1 f3:Nat)(l:List zq)(ids:List Int)(vi1 vi4:Int)(vc8:Bool)(vi9:Int)(vl2 vl3:List Int):=zH zas Tryz.f20 F [f1] [1,1,0,1,0,0,1,0,0,1,1,1,0,1,0] f3 [(0,pL 8 zE l),(1,pL 1 (.int .i64) ids),(5,.arr 5),(6,.arr 6),(7,pI vi1),(8,pI vi4),(10,pB vc8),(11,pI vi9)] [(5,.larr 3 false 1 (.dat (.int .i64) vl2)),(6,.larr 3 false 1 (.dat (.int .i64) vl3))]
def zkt(F f1 f3:Nat)(l:List zq)(ids:List Int)(vi1 vi4:Int)(vc10:Bool)(vi9:Int)(vl2 vl3:List Int):=zx zas Tryz.f20 F [f1,f3] [1,1,0,1,0,0,1,0,0,1,1,1,0,1,0,0,1,1] [(0,pL 8 zE l),(1,pL 1 (.int .i64) ids),(5,.arr 5),(6,.arr 6),(7,pI vi1),(8,pI vi4),(10,pB vc10),(11,pI vi9)] [(5,.larr 3 false 1 (.dat (.int .i64) vl2)),(6,.larr 3 false 1 (.dat (.int .i64) vl3))]
def zc5(F f1:Nat)(l:List zq)(ids:List Int)(vi1:Int)(vl11 vl12:List Int):=zx zas Tryz.f20 F [f1] [1,1,0,1,0,0,1,1] [(0,pL 8 zE l),(1,pL 1 (.int .i64) ids),(5,.arr 5),(6,.arr 6),(7,pI vi1)] [(5,.larr 3 false 1 (.dat (.int .i64) vl11)),(6,.larr 3 false 1 (.dat (.int .i64) vl12))]
def zc4(F f1:Nat)(l:List zq)(ids:List Int)(vi1:Int)(vl13 vl14:List Int):=zx zas Tryz.f20 F [f1] [1,1,0,1,0,0,1,0,0,1,1,1,1,1,1] [(0,pL 8 zE l),(1,pL 1 (.int .i64) ids),(5,.arr 5),(6,.arr 6),(7,pI vi1)] [(5,.larr 3 false 1 (.dat (.int .i64) vl13)),(6,.larr 3 false 1 (.dat (.int .i64) vl14))]
def zi0(F:Nat)(l:List zq)(ids:List Int):=zF zas Tryz.f20 F [pL 8 zE l,pL 1 (.int .i64) ids]
theorem zfX(F f1 l ids vi1 vl2 vl3):letI A:=(l.length:Int)-1;zc8 F (f1+1) l ids vi1 vl2 vl3=cond (decide (vi1<(ids.length:Int))) (ze (zh A) (zc7 F f1 f1 l ids vi1 0 A vl2 vl3)) (some (.p (.list 1 (.dat (.int .i64) vl2)),[])):=by kernel_rfl
theorem zfW(F f1 f2 l ids vi1 vi4 vi5 vl2 vl3):letI A:=(0:Int);zc7 F f1 (f2+1) l ids vi1 vi4 vi5 vl2 vl3=cond (decide (vi5>=0)) (ze (0<=vi5/\vi5<(l.length:Int)) (ze (0<=vi1/\vi1<(ids.length:Int)) (zku F f1 f2 l ids vi1 vi4 vi5 ((l.getD vi5.toNat (A,(A,([],(A,([],([],(A,A)))))))).1==(ids.getD vi1.toNat A)) vl2 vl3))) (zaG F f1 f1 l ids vi1 vi4 false 0 vl2 vl3):=by kernel_rfl
theorem znE(F f1 f2 l ids vi1 vi4 vi5 vc6 vl2 vl3):letI A:=(0:Int);zku F f1 f2 l ids vi1 vi4 vi5 vc6 vl2 vl3=cond vc6 (ze (0<=vi5/\vi5<(l.length:Int)) (zc6 F f1 f2 l ids vi1 (l.getD vi5.toNat (A,(A,([],(A,([],([],(A,A)))))))).2.1 vi5 vl2 vl3)) (zc6 F f1 f2 l ids vi1 vi4 vi5 vl2 vl3):=by kernel_rfl
theorem znD(F f1 f2 l ids vi1 vi7 vi5 vl2 vl3):zc6 F f1 f2 l ids vi1 vi7 vi5 vl2 vl3=ze (zh (vi5-1)) (zc7 F f1 f2 l ids vi1 vi7 (vi5-1) vl2 vl3):=by kernel_rfl
theorem zbp(F f1 f3 l ids vi1 vi4 vc8 vi9 vl2 vl3):letI A:=(0:Int);letI B:=(l.length:Int);zaG F f1 (f3+1) l ids vi1 vi4 vc8 vi9 vl2 vl3=cond (decide (vi9<B)) (ze ((!vc8)=true->0<=vi9/\vi9<B) (ze ((!vc8)=true->0<=vi1/\vi1<(ids.length:Int)) (zkt F f1 f3 l ids vi1 vi4 (vc8||((l.getD vi9.toNat (A,(A,([],(A,([],([],(A,A)))))))).1==(ids.getD vi1.toNat A))) vi9 vl2 vl3))) (ze (vc8=true->vl3.length<=1000000) (cond (vc8&&(vl3.any (vi4==·))) (zc5 F f1 l ids vi1 vl2 vl3) (cond vc8 (ze ((vl3.length+[vi4].length)*8<=140737488355328) (zc4 F f1 l ids vi1 vl2 (vl3++[vi4]))) (zc4 F f1 l ids vi1 vl2 vl3)))):=letI A:=(!vc8)=true;letI B:=vc8=true;Eq.trans (by kernel_rfl) (zj (nI A (nI A (zf (nI A (nI A (nI A (nI A (zf (nI A (nI A (nI A (nN vc8 rfl)))))))))))) (nI B (nI B (zf (nI B rfl)))))
theorem znC(F f1 f3 l ids vi1 vi4 vc10 vi9 vl2 vl3):zkt F f1 f3 l ids vi1 vi4 vc10 vi9 vl2 vl3=ze (zh (vi9+1)) (zaG F f1 f3 l ids vi1 vi4 vc10 (vi9+1) vl2 vl3):=by kernel_rfl
theorem znB(F f1 l ids vi1 vl11 vl12):zc5 F f1 l ids vi1 vl11 vl12=ze (zh (vi1+1)) (zc8 F f1 l ids (vi1+1) vl11 vl12):=by kernel_rfl
theorem znA(F f1 l ids vi1 vl13 vl14):letI A:=ids.getD vi1.toNat (0:Int);zc4 F f1 l ids vi1 vl13 vl14=ze (0<=vi1/\vi1<(ids.length:Int)) (ze ((vl13.length+[A].length)*8<=140737488355328) (zc5 F f1 l ids vi1 (vl13++[A]) vl14)):=by kernel_rfl
theorem zrO(F l ids):zi0 F l ids=zc8 F F l ids 0 ([]:List Int) ([]:List Int):=by kernel_rfl
theorem zuT(F l ids r):IsP 20 (zi0 F l ids) [.p (.list 8 (.dat zE l)),.p (.list 1 (.dat (.int .i64) ids))] r:=zG zas rfl ⟨zAr.any,trivial⟩
theorem rc_2(F f1:Nat)(l:List zq)(ids out seen:List Int)(i:Nat)(x:Int)(hl:l.length<=1000)(hi:i<ids.length)(hil:ids.length<=1000)(hx:ids.getD i 0=x):∀ (k f2:Nat) (t:Int),k<=l.length->k<f2->
 zc7 F f1 f2 l ids (i:Int) t ((k:Int)-1) out seen=zaG F f1 f1 l ids (i:Int) (zfT (l.take k) x t) false (0:Int) out seen
 | 0,f2,t,hk,hf=>by
  obtain⟨f2,rfl⟩:∃ q,f2=q+1:=⟨f2-1,by omega⟩
  rw[zfW,List.take_zero,zfT]
  exact zg (decide_eq_false (by omega)) rfl
 | k+1,f2,t,hk,hf=>by
  obtain⟨f2,rfl⟩:∃ q,f2=q+1:=⟨f2-1,by omega⟩
  have e:((k+1:Nat):Int)-1=(k:Int):=by omega
  have hlt:k<l.length:=by omega
  obtain⟨m,hm⟩:∃ m,l[k]=m:=⟨_,rfl⟩
  have hg:l.getD k dM=m:=by rw[List.getD_eq_getElem?_getD,List.getElem?_eq_getElem hlt,<-hm];rfl
  have htk:l.take (k+1)=l.take k++[m]:=by
   rw[List.take_add_one,List.getElem?_eq_getElem hlt,hm];rfl
  have h4:∀ t':Int,zc6 F f1 f2 l ids (i:Int) t' (k:Int) out seen=zaG F f1 f1 l ids (i:Int) (zfT (l.take k) x t') false (0:Int) out seen:=fun t'=>by
   rw[znD]
   exact zd (by unfold zh;omega) (rc_2 F f1 l ids out seen i x hl hi hil hx k f2 t' (by omega) (by omega))
  rw[zfW,e,htk,zpP]
  simp only[Int.toNat_natCast,hg,hx]
  refine zi (decide_eq_true (by omega)) (zd ⟨by omega,by omega⟩ (zd ⟨by omega,by omega⟩ ?_))
  rw[znE]
  simp only[Int.toNat_natCast,hg]
  cases hc:m.1==x with
  | true=>exact zd ⟨by omega,by omega⟩ (h4 m.2.1)
  | false=>exact h4 t
theorem rc_5(F f1:Nat)(l:List zq)(ids out seen:List Int)(i:Nat)(x t:Int)(hl:l.length<=1000)(hi:i<ids.length)(hil:ids.length<=1000)(hx:ids.getD i 0=x):∀ (r:List zq) (f3 k:Nat) (th:Bool),l.drop k=r->k+r.length=l.length->r.length<f3->
 zaG F f1 f3 l ids (i:Int) t th (k:Int) out seen=zaG F f1 1 l ids (i:Int) t (th||r.any fun m=>m.1==x) (l.length:Int) out seen
 | [],f3,k,th,hd,hk,hf=>by
  obtain⟨f3,rfl⟩:∃ q,f3=q+1:=⟨f3-1,by omega⟩
  have hk:k=l.length:=by simpa using hk
  subst hk
  rw[zbp,show(1:Nat)=0+1 from rfl,zbp,List.any_nil,Bool.or_false]
  rw[decide_eq_false (show ¬ (l.length:Int)<(l.length:Int) by omega)]
  rfl
 | m::r,f3,k,th,hd,hk,hf=>by
  obtain⟨f3,rfl⟩:∃ q,f3=q+1:=⟨f3-1,by omega⟩
  obtain⟨hg,hd2,hlt⟩:=yF hd dM
  rw[List.length_cons]at hk hf
  rw[zbp]
  simp only[Int.toNat_natCast,hg,hx]
  refine zi (decide_eq_true (by omega)) (zd (fun _=>⟨by omega,by omega⟩) (zd (fun _=>⟨by omega,by omega⟩) ?_))
  rw[znC]
  refine zd (by unfold zh;omega) ?_
  rw[show((k:Int)+1)=((k+1:Nat):Int) by omega,rc_5 F f1 l ids out seen i x t hl hi hil hx r f3 (k+1) _ hd2 (by omega) (by omega),List.any_cons,Bool.or_assoc]
theorem rc_1(F:Nat)(l:List zq)(ids:List Int)(hl:l.length<=1000)(hil:ids.length<=1000):∀ (r:List Int) (f1 i:Nat) (out seen:List Int) (told:List (Int×Bool)),ids.drop i=r->i+r.length=ids.length->r.length+1001<f1->out.length<=i->seen.length<=i->(∀ p ∈ told,p.2=true)->(∀ t,zX (e:=.bool) told t=seen.any (t==·))->
 zc8 F f1 l ids (i:Int) out seen=some (.p (.list 1 (.dat (.int .i64) (out++zhU (zfY l []) r told))),[])
 | [],f1,i,out,seen,told,hd,hi,hf,ho,hs,ht,he=>by
  obtain⟨f1,rfl⟩:∃ q,f1=q+1:=⟨f1-1,by omega⟩
  have hi:i=ids.length:=by simpa using hi
  rw[zfX,zhU,List.append_nil]
  exact zg (decide_eq_false (by omega)) rfl
 | x::r,f1,i,out,seen,told,hd,hi,hf,ho,hs,ht,he=>by
  obtain⟨f1,rfl⟩:∃ q,f1=q+1:=⟨f1-1,by omega⟩
  obtain⟨hg,hd2,hlt⟩:=yF hd (0:Int)
  rw[List.length_cons]at hi hf
  obtain⟨t1,t2⟩:=zk7 l [] x
  rw[show zX (e:=.int .i64) ([]:List (Int×Int)) x=false from rfl,Bool.false_or]at t1
  rw[show zX (e:=.int .i64) ([]:List (Int×Int)) x=false from rfl,if_neg (by simp)]at t2
  rw[zfX]
  refine zi (decide_eq_true (by omega)) (zd (by unfold zh;omega) ?_)
  rw[rc_2 F f1 l ids out seen i x hl hlt hil hg l.length f1 0 (Nat.le_refl _) (by omega),List.take_length]
  refine(rc_5 F f1 l ids out seen i x (zfT l x 0) hl hlt hil hg l f1 0 false rfl (by simp) (by omega)).trans ?_
  rw[Bool.false_or,<-t1,<-t2,show(1:Nat)=0+1 from rfl,zbp,zhU,zos ht,he]
  refine zg (decide_eq_false (by omega)) (zd (fun _=>by omega) ?_)
  have h7:∀ (out' seen':List Int) (told':List (Int×Bool)),out'.length<=i+1->seen'.length<=i+1->(∀ p ∈ told',p.2=true)->(∀ t,zX (e:=.bool) told' t=seen'.any (t==·))->
   zc5 F f1 l ids (i:Int) out' seen'=some (.p (.list 1 (.dat (.int .i64) (out'++zhU (zfY l []) r told'))),[]):=fun out' seen' told' q1 q2 q3 q4=>by
   rw[znB]
   refine zd (by unfold zh;omega) ?_
   rw[show((i:Int)+1)=((i+1:Nat):Int) by omega]
   exact rc_1 F l ids hl hil r f1 (i+1) out' seen' told' hd2 (by omega) (by omega) q1 q2 q3 q4
  have h8:∀ (seen':List Int) (told':List (Int×Bool)),seen'.length<=i+1->(∀ p ∈ told',p.2=true)->(∀ t,zX (e:=.bool) told' t=seen'.any (t==·))->
   zc4 F f1 l ids (i:Int) out seen'=some (.p (.list 1 (.dat (.int .i64) (out++x::zhU (zfY l []) r told'))),[]):=fun seen' told' q2 q3 q4=>by
   rw[znA,Int.toNat_natCast,hg]
   refine zd ⟨by omega,by omega⟩ (zd (by rw[List.length_singleton];omega) ?_)
   rw[h7 (out++[x]) seen' told' (by simp;omega) q2 q3 q4,List.append_assoc]
   rfl
  cases hc:(zX (e:=.int .i64) (zfY l []) x&&seen.any (yE (e:=.int .i64) (zfY l []) x==·))with
  | true=>
   rw[if_pos rfl]
   exact zi rfl (h7 out seen told (by omega) (by omega) ht he)
  | false=>
   rw[if_neg (by simp)]
   refine zg rfl ?_
   cases hh:zX (e:=.int .i64) (zfY l []) x with
   | true=>
    rw[if_pos rfl]
    refine zi rfl (zd (by simp;omega) (h8 (seen++[yE (e:=.int .i64) (zfY l []) x]) (told++[(yE (e:=.int .i64) (zfY l []) x,true)]) (by simp;omega) (fun p hp=>?_) (fun t=>?_)))
    .rcases List.mem_append.1 hp with hp|hp
     .exact ht p hp
     .rw [List.mem_singleton.1 hp]
    .rw [zps,he,List.any_append]
     congr 1
   | false=>
    rw[if_neg (by simp)]
    exact zg rfl (h8 seen told (by omega) ht he)
theorem zur(l:List zq)(ids:List Int)(h:zjQ l ids):zi0 2002 l ids=some (.p (.list 1 (.dat (.int .i64) (yW l ids))),[]):=by
 rw[zrO]
 exact rc_1 2002 l ids h.1 h.2 ids 2002 0 [] [] [] rfl (by simp) (by have:=h.2;omega) (by simp) (by simp) (by simp) (fun t=>rfl)
def ze9:List AV->Option (AV×Option Prop)
 | [.p l,.p i]=>match zA zE l,zA (.int .i64) i with
  | some l,some i=>some (.p (.list 1 (.dat (.int .i64) (yW l i))),some (zjQ l i))
  | _,_=>none
 | _=>none
theorem zuu:zn Tryz.prog 20 ze9:=by
 intro zs r ok he hok
 unfold ze9 at he
 split at he
 .rename_i l' i'
  split at he
  .rename_i l i hl hi
   cases he
   exact⟨by kernel_rfl,FnP.lq (ys:=[.p (.list 8 (.dat zE l)),.p (.list 1 (.dat (.int .i64) i))]) ⟨Lq.list (a:=zE) hl,Lq.list (a:=.int .i64) hi,trivial⟩ (zuT 2002 l i _ fun _=>zur l i hok)⟩
  .cases he
 .cases he
theorem zDi{p:yd}{f:List zr}(hk:zBu f)(hl:∀ t ∈ f,zfk p t/\t.2.2.2.2.2.length<=1000000):∀ (k i:Nat),i<k->i<f.length->zry k p f (i:Int)
 | 0,_,h,_=>by omega
 | k+1,i,h,hi=>by
  have hm:f.getD i dT ∈ f:=yi hi _
  rw[zry,Int.toNat_natCast]
  refine⟨⟨by omega,by omega⟩,(hl _ hm).1,fun _=>⟨(hl _ hm).2,fun x hx=>?_⟩⟩
  have hx2:=hk i hi x hx
  obtain⟨y,rfl⟩:=Int.eq_ofNat_of_zero_le hx2.1
  exact zDi hk hl k y (by omega) (by omega)
theorem zN2{f:List zr}{m:zq}(hm:ziB m)(ht:∀ t ∈ f,ziA t)(hl:f.length<=60):zIx f m:=by
 refine⟨⟨by omega,fun t h=>by have:=(ht t h).2.2.2;omega⟩,by have:=hm.1;omega,fun hr hn=>?_⟩
 have h40:f.length<=40:=by
  rcases Nat.lt_or_ge 40 f.length with h|h
  .rw [zaq,if_pos h]at hr;cases hr
  .exact h
 obtain⟨n,hn⟩:∃ n,f.length=n+1:=⟨f.length-1,by omega⟩
 rw[show((f.length:Int)-1)=(n:Int) by omega]
 exact zDi (zo8 hr) (fun t h=>⟨zDs hm (ht t h),by have:=(ht t h).2.2.2;omega⟩) 41 n (by omega) (by omega)
theorem zxv{f:List zr}{m:zq}(hm:ziB m)(ht:∀ t ∈ f,ziA t)(hl:f.length<=60):zAK f m:=by
 by_cases h:f.length<=40
 .exact zFW hm ht h
 .exact ⟨⟨by omega,fun t h=>by have:=(ht t h).2.2.2;omega⟩,by have:=hm.1;omega,fun hr _=>by rw[zaq,if_pos (by omega)]at hr;cases hr⟩
theorem zFj(l:List zq)(f:List zr)(o:List (Elt zM)):(yP l f o).length<=l.length:=by
 unfold yP
 split
 .rw [zdb o _ _ rfl,List.length_map,(ye o _).length_eq,zbg,List.length_map]
  exact List.length_filter_le _ _
 .simp
theorem zjR(thr:List (Int×Int)):∀ (r:List Int) (told:List (Int×Bool)),(zhU thr r told).length<=r.length
 | [],told=>by simp[zhU]
 | x::r,told=>by
  rw[zhU]
  split
  .have:=zjR thr r told;rw[List.length_cons];omega
  .have:=zjR thr r (if zX (e:=.int .i64) thr x then told++[(yE (e:=.int .i64) thr x,true)] else told)
   rw[List.length_cons,List.length_cons];omega
def zgx:=mkG [(9,zoS),(11,zoY),(16,zlq),(17,zll),(18,zlg),(19,zgd),(20,ze9)] [] 76 [] [([0,1,0,1,1],⟨[0,1,2,3,9],[]⟩),([0,1,0,0,1,0,0,1,0,1,1],⟨[0,1,2,3,9,10],[]⟩),([1,0,0,1,0,0,1,0,0,1,0,0,1,0,1,1],⟨[0,1,2,3,9,10,43],[]⟩)] []
def zdR(F f1:Nat)(l:List zq)(f:List zr)(o:List (Int×List UInt8×Bool))(ids:List Int)(vi1:Int):=zH zgx Tryz.f7 F [] [1,1,0,1,0] f1 [(0,pL 8 zE l),(1,pL 6 zu f),(2,pL 3 (.pair (.int .i64) (.pair .str .bool)) o),(3,pL 1 (.int .i64) ids),(9,pI vi1)] []
def zfP(F f1 f2:Nat)(l:List zq)(f:List zr)(o:List (Int×List UInt8×Bool))(ids:List Int)(vi1 vi2:Int):=zH zgx Tryz.f7 F [f1] [1,1,0,1,0,0,1,0,0,1,0] f2 [(0,pL 8 zE l),(1,pL 6 zu f),(2,pL 3 (.pair (.int .i64) (.pair .str .bool)) o),(3,pL 1 (.int .i64) ids),(9,pI vi1),(10,pI vi2)] []
def zq5(F f1 f2:Nat)(l:List zq)(f:List zr)(o:List (Int×List UInt8×Bool))(ids:List Int)(vi1 vi2:Int)(vc3:Bool):=zx zgx Tryz.f7 F [f1,f2] [1,1,0,1,0,0,1,0,0,1,0,0,1,0,0,1] [(0,pL 8 zE l),(1,pL 6 zu f),(2,pL 3 (.pair (.int .i64) (.pair .str .bool)) o),(3,pL 1 (.int .i64) ids),(9,pI vi1),(10,pI vi2),(43,pB vc3)] []
def zqt(F:Nat)(l:List zq)(f:List zr)(o:List (Int×List UInt8×Bool))(ids:List Int):=zF zgx Tryz.f7 F [pL 8 zE l,pL 6 zu f,pL 3 (.pair (.int .i64) (.pair .str .bool)) o,pL 1 (.int .i64) ids]
theorem zim(F f1 l f o ids vi1):letI A:=yP l f o;letI B:=(A==A)&&((yW l A)==(yW l A));letI C:=yW l ids;letI D:=(A==A)=true->zjQ l A;letI E:=B=true->zjQ l ids;zdR F (f1+1) l f o ids vi1=cond (decide (vi1<(l.length:Int))) (zfP F f1 f1 l f o ids vi1 0) (ze (zIB l f o) (ze (zIw l f o) (ze (A.length<=1000000) (ze D (ze D (ze ((A==A)=true->(yW l A).length<=1000000) (ze E (ze E (ze (B=true->C.length<=1000000) (some (.p (.bool ((B&&(C==C))&&true)),[]))))))))))):=letI A:=((yP l f o)==(yP l f o))&&((yW l (yP l f o))==(yW l (yP l f o)));letI B:=((yP l f o)==(yP l f o))=true;letI C:=A=true;letI D:=yW l ids;Eq.trans (by kernel_rfl) (zj rfl (zf (zf (zf (nI B (nI B (zf (nI B (nI B (zf (nI B (nI B (zf (nI B (nI C (nI C (zf (nI C (nI C (zf (nI C (nI C (zf (nI C (nI ((A&&(D==D))=true) rfl)))))))))))))))))))))))))
theorem zil(F f1 f2 l f o ids vi1 vi2):letI A:=(0:Int);letI B:=(l.length:Int);zfP F f1 (f2+1) l f o ids vi1 vi2=cond (decide (vi2<vi1)) (ze (0<=vi2/\vi2<B) (ze (0<=vi1/\vi1<B) (zq5 F f1 f2 l f o ids vi1 vi2 ((l.getD vi2.toNat (A,(A,([],(A,([],([],(A,A)))))))).1==(l.getD vi1.toNat (A,(A,([],(A,([],([],(A,A)))))))).1)))) (ze (zh (vi1+1)) (zdR F f1 l f o ids (vi1+1))):=by kernel_rfl
theorem zsa(F f1 f2 l f o ids vi1 vi2 vc3):zq5 F f1 f2 l f o ids vi1 vi2 vc3=cond vc3 (some (.p (.bool true),[])) (ze (zh (vi2+1)) (zfP F f1 f2 l f o ids vi1 (vi2+1))):=by kernel_rfl
theorem zyy(F l f o ids):zqt F l f o ids=cond ((zgm l f o)||(decide ((ids.length:Int)>60))) (some (.p (.bool true),[])) (zdR F F l f o ids 0):=letI A:=zgm l f o;Eq.trans (by kernel_rfl) (nI ((!A)=true) (nI ((!A)=true) (nN A rfl)))
theorem zAZ(F l f o ids r):IsP 7 (zqt F l f o ids) [.p (.list 8 (.dat zE l)),.p (.list 6 (.dat zu f)),.p (.list 3 (.dat (.pair (.int .i64) (.pair .str .bool)) o)),.p (.list 1 (.dat (.int .i64) ids))] r:=zG zgx rfl ⟨zI8.any,zJh.any,zFC.any,zFx.any,zFr.any,zxj.any,zuu.any,trivial⟩
theorem zRG(F f1:Nat)(l:List zq)(f:List zr)(o:List (Elt zM))(ids:List Int)(hl:l.length<=30)(hm:∀ m ∈ l,ziB m)(ht:∀ t ∈ f,ziA t)(hf:f.length<=60)(hi:ids.length<=60)(hd:l.Pairwise fun x y=>x.1≠y.1):
 zdR F (f1+1) l f o ids (l.length:Int)=some (.p (.bool true),[]):=by
 have hro:zbI f:=⟨by omega,fun t h=>by have:=(ht t h).2.2.2;omega⟩
 have hq:=zFj l f o
 have hc1:(yW l (yP l f o)).length<=(yP l f o).length:=zjR _ _ _
 have hc2:(yW l ids).length<=ids.length:=zjR _ _ _
 have hqok:zIB l f o:=⟨trivial,hro,hl,hd,fun m h=>by
  have hs:=hm m h
  have h1:=hs.1
  have h2:=zlc m.2.2.1
  refine⟨⟨zdV (by omega) (by simp),?_⟩,by omega,by omega,zxv hs ht hf⟩
  have:(yf (zU m.2.2.1 0 (m.2.2.1.length:Int)).1 zmJ).1.length<=m.2.2.1.length:=ziO fun y hy=>(zcp m.2.2.1 0 (m.2.2.1.length:Int) y hy).2
  exact Nat.le_trans this (by omega)⟩
 have hrok:zIw l f o:=⟨hro,hl,hd,fun m h=>⟨by have:=(hm m h).1;omega,zN2 (hm m h) ht hf⟩⟩
 have ck1:zjQ l (yP l f o):=⟨by omega,by omega⟩
 have ck2:zjQ l ids:=⟨by omega,by omega⟩
 rw[zim]
 refine zg (decide_eq_false (by omega)) (zd hqok (zd hrok (zd (by omega) (zd (fun _=>ck1) (zd (fun _=>ck1) (zd (fun _=>by omega) (zd (fun _=>ck2) (zd (fun _=>ck2) (zd (fun _=>by omega) ?_)))))))))
 rw[beq_self_eq_true,beq_self_eq_true,beq_self_eq_true]
 rfl
theorem qs_1(F:Nat)(l:List zq)(f:List zr)(o:List (Elt zM))(ids:List Int)(hl:l.length<=30)(hm:∀ m ∈ l,ziB m)(ht:∀ t ∈ f,ziA t)(hf:f.length<=60)(hi:ids.length<=60):∀ (n f1 i:Nat),i+n=l.length->n+40<f1->
 (∀ a b,a<b->b<i->(l.getD a dM).1≠(l.getD b dM).1)->zdR F f1 l f o ids (i:Int)=some (.p (.bool true),[]):=by
 intro n
 induction n with
 | zero=>
  intro f1 i hn hf1 hd
  obtain⟨f1,rfl⟩:∃ q,f1=q+1:=⟨f1-1,by omega⟩
  have:i=l.length:=by omega
  subst this
  refine zRG F f1 l f o ids hl hm ht hf hi (List.pairwise_iff_getElem.2 fun a b ha hb hab=>?_)
  have:=hd a b hab hb
  rw[List.getD_eq_getElem?_getD,List.getElem?_eq_getElem ha,List.getD_eq_getElem?_getD,List.getElem?_eq_getElem hb]at this
  exact this
 | succ n ih=>
  intro f1 i hn hf1 hd
  obtain⟨f1,rfl⟩:∃ q,f1=q+1:=⟨f1-1,by omega⟩
  have h2:∀ (m f2 k:Nat),k+m=i->m<f2->(∀ a,a<k->(l.getD a dM).1≠(l.getD i dM).1)->zfP F f1 f2 l f o ids (i:Int) (k:Int)=some (.p (.bool true),[]):=by
   intro m
   induction m with
   | zero=>
    intro f2 k hk hf2 ha
    obtain⟨f2,rfl⟩:∃ q,f2=q+1:=⟨f2-1,by omega⟩
    rw[zil]
    refine zg (decide_eq_false (by omega)) (zd (by unfold zh;omega) ?_)
    rw[show((i:Int)+1)=((i+1:Nat):Int) by omega]
    refine ih f1 (i+1) (by omega) (by omega) fun a b hab hb=>?_
    by_cases hbi:b=i
    .subst hbi;exact ha a (by omega)
    .exact hd a b hab (by omega)
   | succ m ih2=>
    intro f2 k hk hf2 ha
    obtain⟨f2,rfl⟩:∃ q,f2=q+1:=⟨f2-1,by omega⟩
    rw[zil]
    refine zi (decide_eq_true (by omega)) (zd ⟨by omega,by omega⟩ (zd ⟨by omega,by omega⟩ ?_))
    rw[zsa]
    show cond ((l.getD ((k:Int)).toNat dM).1==(l.getD ((i:Int)).toNat dM).1) _ _=_
    rw[Int.toNat_natCast,Int.toNat_natCast]
    by_cases hc:(l.getD k dM).1=(l.getD i dM).1
    .exact zi (beq_iff_eq.2 hc) rfl
    .refine zg (beq_eq_false_iff_ne.2 hc) (zd (by unfold zh;omega) ?_)
     rw[show((k:Int)+1)=((k+1:Nat):Int) by omega]
     refine ih2 f2 (k+1) (by omega) (by omega) fun a hak=>?_
     by_cases hak2:a=k
     .subst hak2;exact hc
     .exact ha a (by omega)
  rw[zim]
  refine zi (decide_eq_true (by omega)) ?_
  exact h2 i f1 0 (by omega) (by omega) fun a ha=>by omega
theorem zAf(l:List zq)(f:List zr)(o:List (Elt zM))(ids:List Int):zqt 100 l f o ids=some (.p (.bool true),[]):=by
 rw[zyy]
 cases hc:(zgm l f o||decide ((ids.length:Int)>(60:Int)))with
 | true=>rfl
 | false=>
  rw[Bool.or_eq_false_iff,decide_eq_false_iff_not]at hc
  obtain⟨s1,s2,s3,s4,s5⟩:=zIf hc.1
  exact zg rfl (qs_1 100 l f o ids s3 s1 s2 s4 (by omega) l.length 100 0 (by omega) (by omega) fun a b _ hb=>by omega)
theorem zxH(x0:List zq)(x1:List zr)(x2:List (Elt zM))(x3:List Int):FnP Tryz.prog 7 [.p (.list 8 (.dat zE x0)),.p (.list 6 (.dat zu x1)),.p (.list 3 (.dat zM x2)),.p (.list 1 (.dat (.int .i64) x3))] (.p (.bool true)):=
 zAZ 100 x0 x1 x2 x3 _ fun _=>zAf x0 x1 x2 x3
end Go.Proofs.YtampckbjinodgaaGreatDoor
/-! Slices among the arguments of a row. -/
namespace Go.Am
open Go Go.RowKit Go.ChangeShapes Go.WideShapes
def zcQ(w:World):Mem:=fun b o=>w.cell? ⟨b,o,none⟩
theorem zJp(w:World)(hg:GOk (zcQ w))(ht:TOk w):WOk (zcQ w) w:=⟨⟨fun _ _ _ h=>h,hg⟩,ht⟩
inductive EcX(P:Program):Ec->TypeId ⊕ (List Field×Nat)->Prop
 | bool {t:TypeId} (h:P.underlying t=some .bool):EcX P .bool (.inl t)
 | int {k:IntKind} {t:TypeId} (h:P.underlying t=some (.int k)):EcX P (.int k) (.inl t)
 | str {t:TypeId} (h:P.underlying t=some .string):EcX P .str (.inl t)
 | list {e t:TypeId} {a:Ec} (h:P.underlying t=some (.slice e)) (hc:P.cellsOf e=wid a) (h1:1<=wid a) (ha:EcX P a (.inl e)):EcX P (.list a) (.inl t)
 | struct {t:TypeId} {fs:Array Field} {l:List Field} {c:Ec} (h:P.underlying t=some (.struct fs)) (hl:fs.toList=l) (hc:P.cellsOf t=wid c) (hf:EcX P c (.inr (l,0))):EcX P c (.inl t)
 | last {c:Ec} {f:Field} {o:Nat} (ho:f.offset=o) (hc:P.cellsOf f.type=wid c) (h:EcX P c (.inl f.type)):EcX P c (.inr ([f],o))
 | cons {a b:Ec} {f:Field} {fs:List Field} {o o2:Nat} (ho:f.offset=o) (hc:P.cellsOf f.type=wid a) (h:EcX P a (.inl f.type)) (h2:o2=o+wid a) (hr:EcX P b (.inr (fs,o2))):EcX P (.pair a b) (.inr (f::fs,o))
def zh2:(c:Ec)->Elt c->List Nat
 | .str,x=>[List.length (α:=UInt8) x]
 | .pair a b,x=>zh2 a x.1++zh2 b x.2
 | _,_=>[]
section
variable {H:Type}{enc:TypeId×Value->H}{P:Program}{w:World}{held:Bool}
theorem zah:∀ {ts:List TypeId} {ds:List (DataW H)} {i:Nat} {t:TypeId} {d:DataW H} {n:Nat},ts[i]?=some t->ds[i]?=some d->n ∈ d.weights P t->n ∈ DataW.weightsEach P ts ds
 | [],_,_,_,_,_,h,_,_=>by simp at h
 | _::_,[],_,_,_,_,_,h,_=>by simp at h
 | u::ts,e::ds,0,t,d,n,h1,h2,h3=>by
  simp at h1 h2;subst h1;subst h2
  rw[DataW.weightsEach];exact List.mem_append_left _ h3
 | u::ts,e::ds,i+1,t,d,n,h1,h2,h3=>by
  rw[DataW.weightsEach];exact List.mem_append_right _ (zah (by simpa using h1) (by simpa using h2) h3)
theorem zf2{e:TypeId}:∀ {ds:List (DataW H)} {d:DataW H} {n:Nat},d ∈ ds->n ∈ d.weights P e->n ∈ DataW.weightsAll P e ds
 | [],_,_,h,_=>by cases h
 | d'::ds,d,n,h,hn=>by
  rw[DataW.weightsAll]
  rcases List.mem_cons.1 h with h|h
  .subst h;exact List.mem_append_left _ hn
  .exact List.mem_append_right _ (zf2 h hn)
theorem zeC{b off n:Nat}:(⟨b,off,none⟩:Addr).add n=⟨b,off+n,none⟩:=by
 unfold Addr.add
 split
 .rename_i h;subst h;rfl
 .rfl
theorem zDk{c:Ec}{x:TypeId ⊕ (List Field×Nat)}(h:EcX P c x):match x with
 | .inl t=>∀ (fuel:Nat) (cs:List Value) (y:DataW H×List MemPlace),DataW.trod enc P w 0 (fun _=>true) held fuel t cs=some y->∃ d:Elt c,(∀ j,j<wid c->zR (zcQ w) (cell c d j) (cs.getD j undef))/\∀ n ∈ zh2 c d,n ∈ y.1.weights P t
 | .inr (fs,o)=>∀ (fuel:Nat) (cs:List Value),(∀ f ∈ fs,∃ y,DataW.trod enc P w 0 (fun _=>true) held fuel f.type ((cs.drop f.offset).take (P.cellsOf f.type))=some y)->
  ∃ d:Elt c,(∀ j,j<wid c->zR (zcQ w) (cell c d j) (cs.getD (o+j) undef))/\∀ n ∈ zh2 c d,∃ f ∈ fs,∃ y,DataW.trod enc P w 0 (fun _=>true) held fuel f.type ((cs.drop f.offset).take (P.cellsOf f.type))=some y/\n ∈ y.1.weights P f.type:=by
 induction h with
 | bool h=>
  intro fuel cs y hy
  obtain⟨b,rfl,_⟩:=DataW.trod_bool h hy
  exact ⟨b, fun j hj => by have : j = 0 := by (have := hj; simp only [wid] at this; omega)
                           subst this;exact .bool b,fun n hn=>by cases hn⟩
 | int h=>
  intro fuel cs y hy
  obtain⟨n,rfl,_,hw⟩:=DataW.trod_int h hy
  exact ⟨n, fun j hj => by have : j = 0 := by (have := hj; simp only [wid] at this; omega)
                           subst this;exact .int _ n (zSd hw),fun n hn=>by cases hn⟩
 | str h=>
  intro fuel cs y hy
  obtain⟨s,rfl,hy',hw⟩:=DataW.trod_string h hy
  refine ⟨s.data.toList, fun j hj => by have : j = 0 := by (have := hj; simp only [wid] at this; omega)
                                        subst this;exact .str s.data.toList (by rw[Array.length_toList];exact hw),fun n hn=>?_⟩
  subst hy'
  rw[DataW.weights];exact hn
 | list h hc h1 ha ih=>
  intro fuel cs y hy
  rename_i e t a
  rcases Go.Deep.open_slice h hy with⟨rfl,_⟩|⟨q,len,cap,m,n,D,Pl,rfl,hb,hl,hm,hmm,hdd,hx⟩
  · exact ⟨[], fun j hj => by have : j = 0 := by (have := hj; simp only [wid] at this; omega)
                              subst this;exact .listNil _ _ rfl,fun n hn=>by cases hn⟩
  .have hmc:m=cap:=by simpa using hmm
   subst hmc
   obtain⟨cs,hcs⟩:=Go.Deep.choose_lt (α:=List Value) (p:=fun i cs'=>w.cells? 0 (q.add (i*P.cellsOf e)) (P.cellsOf e)=some cs'/\DataW.trod enc P w 0 (fun _=>true) held n e cs'=some (D i,Pl i)) hx
   have hex:∀ i,i<m->∃ d:Elt a,(∀ j,j<wid a->zR (zcQ w) (cell a d j) ((cs i).getD j undef))/\∀ k ∈ zh2 a d,k ∈ (D i).weights P e:=fun i hi=>ih n (cs i) _ (hcs i hi).2
   letI:Inhabited (Elt a):=⟨dfl a⟩
   obtain⟨E,hE⟩:=Go.Deep.choose_lt hex
   have hlen:((List.range len).map E).length=len:=by simp
   refine⟨(List.range len).map E,fun j hj=>?_,fun n hn=>by cases hn⟩
   have hj0:j=0:=by have:=hj;simp only[wid]at this;omega
   subst hj0
   show zR (zcQ w) (.list (wid a) (.dat a ((List.range len).map E))) (.slice (some q) len m)
   by_cases hm0:m=0
   .subst hm0
    obtain rfl:len=0:=by omega
    exact .listZero _ _ _ rfl
   .obtain ⟨bl,off,sp⟩:=q
    have hspot:sp=none:=by
     obtain⟨_,h2,h3⟩:=World.cells?_some (hcs 0 (by omega)).1
     have:=h3 0 (by rw[hc];omega)
     rw[List.getElem?_eq_getElem (by rw[h2,hc];omega)]at this
     simpa[Addr.add]using World.cell?_spot this
    subst hspot
    have hget:∀ i,i<len->((List.range len).map E).getD i (dfl a)=E i:=fun i hi=>by
     rw[List.getD_eq_getElem?_getD,List.getElem?_map,List.getElem?_range hi];rfl
    have key:zR (zcQ w) (.list (wid a) (.dat a ((List.range len).map E))) (.slice (some ⟨bl,off,none⟩) (Rows.dat a ((List.range len).map E)).n m):=by
     refine .list _ _ bl off m (fun i j=>(cs i).getD j undef) ?_ ?_ (fun i j hi hj=>?_) (fun i j hi hj=>?_)
     .show ((List.range len).map E).length<=maxLen
      rw[hlen];exact Nat.le_trans hl hm
     .show ((List.range len).map E).length<=m
      rw[hlen];exact hl
     · have hi' : i < len := by have : i < ((List.range len).map E).length := hi
                                rwa [hlen]at this
       obtain⟨_,h2,h3⟩:=World.cells?_some (hcs i (by omega)).1
       have:=h3 j (by rw[hc];exact hj)
       rw[zeC,zeC,hc]at this
       show w.cell? ⟨bl,off+i*wid a+j,none⟩=_
       rw[this,List.getD_eq_getElem?_getD,List.getElem?_eq_getElem (by rw[h2,hc];exact hj)]
       rfl
     · have hi' : i < len := by have : i < ((List.range len).map E).length := hi
                                rwa [hlen]at this
       show zR _ (cell a (((List.range len).map E).getD i (dfl a)) j) _
       rw[hget i hi']
       exact(hE i (by omega)).1 j hj
    have hn:(Rows.dat a ((List.range len).map E)).n=len:=hlen
    rw[hn]at key
    exact key
 | struct h hl hc hf ih=>
  intro fuel cs y hy
  obtain⟨xs,n,rfl,hy',hlen,hxs,hall⟩:=DataW.trod_struct h hy
  rename_i t fs l c
  have hgo:∀ f ∈ l,∃ (i:Nat) (hi:i<xs.length),fs.toList[i]?=some f/\DataW.trod enc P w 0 (fun _=>true) held n f.type ((cs.drop f.offset).take (P.cellsOf f.type))=some xs[i]:=fun f hf=>by
   rw[<-hl]at hf
   obtain⟨i,hi⟩:=List.getElem?_of_mem hf
   have hi':=hi
   rw[Array.getElem?_toList]at hi'
   have hlt:i<xs.length:=by
    rw[hxs]
    have:=(List.getElem?_eq_some_iff.1 hi).1
    simpa using this
   have:=hall i f hi'
   rw[List.getElem?_eq_getElem hlt]at this
   exact⟨i,hlt,hi,this⟩
  obtain⟨d,hd,hw⟩:=ih n cs fun f hf=>by
   obtain⟨i,hi,_,h2⟩:=hgo f hf
   exact⟨_,h2⟩
  refine⟨d,fun j hj=>by have:=hd j hj;rwa [Nat.zero_add]at this,fun k hk=>?_⟩
  obtain⟨f,hf,y2,h2,h3⟩:=hw k hk
  obtain⟨i,hi,h4,h5⟩:=hgo f hf
  rw[h5]at h2;cases h2
  subst hy'
  rw[DataW.weights,h]
  refine zah (i:=i) (t:=f.type) (d:=xs[i].1) ?_ ?_ h3
  .rw [List.getElem?_map,h4];rfl
  .rw [List.getElem?_map,List.getElem?_eq_getElem hi];rfl
 | last ho hc h ih=>
  intro fuel cs hall
  obtain⟨y,hy⟩:=hall _ (List.mem_singleton.2 rfl)
  obtain⟨d,hd,hw⟩:=ih fuel _ y hy
  refine⟨d,fun j hj=>?_,fun n hn=>⟨_,List.mem_singleton.2 rfl,y,hy,hw n hn⟩⟩
  have:=hd j hj
  rw[List.getD_eq_getElem?_getD,List.getElem?_take_of_lt (by rw[hc];exact hj),List.getElem?_drop,ho,<-List.getD_eq_getElem?_getD]at this
  exact this
 | cons ho hc h h2 hr ih ihr=>
  intro fuel cs hall
  obtain⟨y,hy⟩:=hall _ (List.mem_cons_self ..)
  obtain⟨d,hd,hw⟩:=ih fuel _ y hy
  obtain⟨d2,hd2,hw2⟩:=ihr fuel cs fun f hf=>hall f (List.mem_cons_of_mem _ hf)
  rename_i a b f fs o o2
  refine⟨(d,d2),fun j hj=>?_,fun n hn=>?_⟩
  .simp only[cell]
   cases hlt:Nat.blt j (wid a)with
   | true=>
    have hlt:j<wid a:=Nat.le_of_ble_eq_true hlt
    have:=hd j hlt
    rw[List.getD_eq_getElem?_getD,List.getElem?_take_of_lt (by rw[hc];exact hlt),List.getElem?_drop,ho,<-List.getD_eq_getElem?_getD]at this
    exact this
   | false=>
    have hge:wid a<=j:=by
     rcases Nat.lt_or_ge j (wid a)with h5|h5
     .have:Nat.blt j (wid a)=true:=Nat.ble_eq_true_of_le h5
      rw[this]at hlt;cases hlt
     .exact h5
    have hj':j<wid a+wid b:=hj
    have:=hd2 (j-wid a) (by omega)
    rw[h2,show o+wid a+(j-wid a)=o+j by omega]at this
    exact this
  .rcases List.mem_append.1 hn with hn|hn
   .exact ⟨f,List.mem_cons_self ..,y,hy,hw n hn⟩
   .obtain ⟨f',hf',y',h1,h2⟩:=hw2 n hn
    exact⟨f',List.mem_cons_of_mem _ hf',y',h1,h2⟩
theorem zmx{r:Reach}{b0:Nat}{t e:TypeId}{a:Addr}{len cap:Nat}(ht:P.underlying t=some (.slice e))(h:Value.okWide P w r b0 t (.slice (some a) len cap)):a.spot=none:=by
 unfold Value.okWide at h
 rw[ht]at h
 simp only[Cell.okWide,Cell.ok,ht]at h
 exact h.2.2.2.1
theorem zsH{r:Reach}{b0:Nat}{t e:TypeId}{a:Ec}{v:Value}{d:DataW H}{ps:List MemPlace}(ht:P.underlying t=some (.slice e))(hc:P.cellsOf e=wid a)(ha:EcX P a (.inl e))
 (hval:Value.okWide P w r b0 t v) (hd:DataW.Trod enc P w 0 (fun _=>true) held t v d ps):∃ l:List (Elt a),zp γ0 (zcQ w) (.p (.list (wid a) (.dat a l))) v/\(∀ x ∈ l,∀ n ∈ zh2 a x,n ∈ d.weights P t)/\(l≠[]->∃ m,l.length<=m/\m*P.bytesOf e ∈ d.weights P t):=by
 obtain⟨a0,len,cap,rfl⟩:=okWide_slice ht hval
 obtain⟨fuel,hf⟩:=hd
 rcases Go.Deep.open_slice ht hf with⟨h0,_⟩|⟨q,len',cap',m,n,D,Pl,h0,hb,hl,hm,hmm,hdd,hx⟩
 .simp only[Value.cells,List.cons.injEq,Value.slice.injEq,and_true]at h0
  obtain⟨rfl,rfl,rfl⟩:=h0
  exact⟨[],.p _ _ (.listNil _ _ rfl),fun x hx=>(by cases hx),fun h=>absurd rfl h⟩
 .simp only[Value.cells,List.cons.injEq,Value.slice.injEq,and_true]at h0
  obtain⟨rfl,rfl,rfl⟩:=h0
  have hspot:=zmx ht hval
  obtain⟨bl,off,sp⟩:=q
  dsimp only at hspot
  subst hspot
  have hlm:len<=m:=by rw[hmm];split <;> omega
  obtain⟨cs,hcs⟩:=Go.Deep.choose_lt (α:=List Value) (p:=fun i cs'=>w.cells? 0 ((⟨bl,off,none⟩:Addr).add (i*P.cellsOf e)) (P.cellsOf e)=some cs'/\DataW.trod enc P w 0 (fun _=>true) held n e cs'=some (D i,Pl i)) hx
  have hex:∀ i,i<m->∃ d:Elt a,(∀ j,j<wid a->zR (zcQ w) (cell a d j) ((cs i).getD j undef))/\∀ k ∈ zh2 a d,k ∈ (D i).weights P e:=fun i hi=>zDk ha n (cs i) _ (hcs i hi).2
  letI:Inhabited (Elt a):=⟨dfl a⟩
  obtain⟨E,hE⟩:=Go.Deep.choose_lt hex
  have hlen:((List.range len).map E).length=len:=by simp
  have hd1:d=.slice ((List.range len).map D) ((List.range (m-len)).map fun j=>D (len+j)):=congrArg Prod.fst hdd
  have hwd:d.weights P t=(((List.range len).map D).length+((List.range (m-len)).map fun j=>D (len+j)).length)*P.bytesOf e::(DataW.weightsAll P e ((List.range len).map D)++DataW.weightsAll P e ((List.range (m-len)).map fun j=>D (len+j))):=by
   rw[hd1,DataW.weights,ht]
  refine⟨(List.range len).map E,?_,fun x hx k hk=>?_,fun _=>⟨_,?_,by rw[hwd];exact List.mem_cons_self ..⟩⟩
  rotate_left
  .obtain ⟨i,hi,rfl⟩:=List.mem_map.1 hx
   have hi:=List.mem_range.1 hi
   rw[hwd]
   refine List.mem_cons_of_mem _ (List.mem_append_left _ (zf2 (d:=D i) (List.mem_map.2 ⟨i,List.mem_range.2 hi,rfl⟩) ((hE i (by omega)).2 k hk)))
  .simp
  have hget:∀ i,i<len->((List.range len).map E).getD i (dfl a)=E i:=fun i hi=>by
   rw[List.getD_eq_getElem?_getD,List.getElem?_map,List.getElem?_range hi];rfl
  have key:zR (zcQ w) (.list (wid a) (.dat a ((List.range len).map E))) (.slice (some ⟨bl,off,none⟩) (Rows.dat a ((List.range len).map E)).n cap):=by
   refine .list _ _ bl off cap (fun i j=>(cs i).getD j undef) ?_ ?_ (fun i j hi hj=>?_) (fun i j hi hj=>?_)
   .show ((List.range len).map E).length<=maxLen
    rw[hlen];exact Nat.le_trans hl hm
   .show ((List.range len).map E).length<=cap
    rw[hlen];exact hl
   · have hi' : i < len := by have : i < ((List.range len).map E).length := hi
                              rwa [hlen]at this
     obtain⟨_,h2,h3⟩:=World.cells?_some (hcs i (by omega)).1
     have:=h3 j (by rw[hc];exact hj)
     rw[zeC,zeC,hc]at this
     show w.cell? ⟨bl,off+i*wid a+j,none⟩=_
     rw[this,List.getD_eq_getElem?_getD,List.getElem?_eq_getElem (by rw[h2,hc];exact hj)]
     rfl
   · have hi' : i < len := by have : i < ((List.range len).map E).length := hi
                              rwa [hlen]at this
     show zR _ (cell a (((List.range len).map E).getD i (dfl a)) j) _
     rw[hget i hi']
     exact(hE i (by omega)).1 j hj
  have hn:(Rows.dat a ((List.range len).map E)).n=len:=hlen
  rw[hn]at key
  exact .p _ _ key
end
theorem ztQ{P:Program}{f:FuncId}{args:List AV}(h:FnP P f args (.p (.bool true))){vs:List Value}(w:World)(hg:GOk (zcQ w))(ht:TOk w)(hv:zB γ0 (zcQ w) args vs):
 Calls P f vs.toArray w fun e w'=>e=.returned (.bool true)/\Below w.heap.size w w':=by
 refine(h (zcQ w) w vs (zJp w hg ht) hv).mono fun e w' ⟨v,M',he,_,_,_,hr,hb⟩=>?_
 rw[hr.bool_inv]at he
 exact⟨he,hb⟩
end Go.Am
namespace Go.Am
open Go Go.RowKit Go.ChangeShapes Go.WideShapes Go.ChangeAt
variable {H:Type}{enc:TypeId×Value->H}
theorem zo9{a:Assume}{C:Checked}{os:Os}{f:FuncId}{fn:Func}{s:ChangeSpec}{conds:List PathCond}{apart fresh handsOn again:Bool}{X:World->Array Value->Prop}
 (own:ownKnob C.prog.godebug=none) (started:os.Started) (noInit:C.prog.inits.idxOf? f=none) (hfn:C.prog.funcs[f]?=some fn)
 (witness:∃ (w:World) (tape:Tape) (i:Input),w.os=os/\(w.forCall tape i).Shaped C.prog/\i.vars=[]/\Input.okWide C.prog (w.forCall tape i) .any w.heap.size f i/\
  ((s.pre enc C.prog fn conds apart (w.forCall tape i).memory i.args/\X (w.forCall tape i).memory i.args)/\sizedMet enc C.prog fn (OpenSpec.ofChange s) apart (w.forCall tape i).memory i.args)/\a.holds C.prog (lone (Frame.enter C.prog f i.args .normal) [] (w.forCall tape i)))
 (contract:∀ (W:World) (base:Nat) (args:Array Value) (ds gs:List (DataW H)) (before:List MemPlace),W.ShapedOpen C.prog->(∃ W0:World,W0.heap=W.heap/\X W0 args)->
  (∀ (j:Nat) t v,fn.params[j]?=some t->args[j]?=some v->Value.okWide C.prog W .any base t v)->
  DataW.Whole enc C.prog fn.params.toList s.vars apart W args.toList ds gs before->
  (DataW.weightsEach C.prog (fn.params.toList++s.plain.varTypes C.prog) (ds++gs)).all (·<=reachBytes)=true->
  Calls C.prog f args W fun e W'=>∃ v,e=.returned v/\s.post enc C.prog fn apart fresh handsOn again W args v W'):
 ReturnsInHanded a C os f .any (fun w args=>(s.pre enc C.prog fn conds apart w args/\X w args)/\sizedMet enc C.prog fn (OpenSpec.ofChange s) apart w args) (s.post enc C.prog fn apart fresh handsOn again):=by
 refine returnsInHanded_of_calls own started noInit witness ?_
 intro w tape i _ hsh _ hok hpre _
 obtain⟨_,_,_,fn',hfn',_,_,_,_,hval⟩:=hok
 have e:fn'=fn:=Option.some.inj (hfn'.symm.trans hfn)
 subst e
 obtain⟨⟨⟨ds,gs,before,hw,_⟩,hX⟩,hz⟩:=hpre
 have hw':=DataW.Whole.of_heap (w':=w.forCall tape i) (by rfl) hw
 refine(contract (w.forCall tape i) w.heap.size i.args ds gs before hsh ⟨(w.forCall tape i).memory,rfl,hX⟩ hval hw' (hz.weights hw)).mono fun e W' ⟨v,he,hp⟩=>?_
 subst he
 exact ChangeSpec.post_blind hp
end Go.Am
namespace Go.Am
open Go Go.RowKit Go.ChangeShapes Go.WideShapes
section
variable {H:Type}{enc:TypeId×Value->H}{P:Program}{w:World}{held:Bool}
theorem zpk{r:Reach}{b0:Nat}{t e:TypeId}{a:Ec}{v:Value}{d:DataW H}{ps:List MemPlace}(ht:P.underlying t=some (.slice e))(hc:P.cellsOf e=wid a)(ha:EcX P a (.inl e))
 (hval:Value.okWide P w r b0 t v) (hd:DataW.Trod enc P w 0  (fun _=>true) held t v d ps):∃ l:List (Elt a),zp γ0 (zcQ w) (.p (.list (wid a) (.dat a l))) v/\(l=[]\/∃ es sp,d=.slice es sp/\es.length=l.length):=by
 obtain⟨a0,len,cap,rfl⟩:=okWide_slice ht hval
 obtain⟨fuel,hf⟩:=hd
 rcases Go.Deep.open_slice ht hf with⟨h0,_⟩|⟨q,len',cap',m,n,D,Pl,h0,hb,hl,hm,hmm,hdd,hx⟩
 .simp only[Value.cells,List.cons.injEq,Value.slice.injEq,and_true]at h0
  obtain⟨rfl,rfl,rfl⟩:=h0
  exact⟨[],.p _ _ (.listNil _ _ rfl),.inl rfl⟩
 .simp only[Value.cells,List.cons.injEq,Value.slice.injEq,and_true]at h0
  obtain⟨rfl,rfl,rfl⟩:=h0
  have hspot:=zmx ht hval
  obtain⟨bl,off,sp⟩:=q
  dsimp only at hspot
  subst hspot
  have hlm:len<=m:=by rw[hmm];split <;> omega
  obtain⟨cs,hcs⟩:=Go.Deep.choose_lt (α:=List Value) (p:=fun i cs'=>w.cells? 0 ((⟨bl,off,none⟩:Addr).add (i*P.cellsOf e)) (P.cellsOf e)=some cs'/\DataW.trod enc P w 0  (fun _=>true) held n e cs'=some (D i,Pl i)) hx
  have hex:∀ i,i<m->∃ d:Elt a,(∀ j,j<wid a->zR (zcQ w) (cell a d j) ((cs i).getD j undef))/\∀ k ∈ zh2 a d,k ∈ (D i).weights P e:=fun i hi=>zDk ha n (cs i) _ (hcs i hi).2
  letI:Inhabited (Elt a):=⟨dfl a⟩
  obtain⟨E,hE⟩:=Go.Deep.choose_lt hex
  have hlen:((List.range len).map E).length=len:=by simp
  have hd1:d=.slice ((List.range len).map D) ((List.range (m-len)).map fun j=>D (len+j)):=congrArg Prod.fst hdd
  refine⟨(List.range len).map E,?_,.inr ⟨_,_,hd1,by simp⟩⟩
  have hget:∀ i,i<len->((List.range len).map E).getD i (dfl a)=E i:=fun i hi=>by
   rw[List.getD_eq_getElem?_getD,List.getElem?_map,List.getElem?_range hi];rfl
  have key:zR (zcQ w) (.list (wid a) (.dat a ((List.range len).map E))) (.slice (some ⟨bl,off,none⟩) (Rows.dat a ((List.range len).map E)).n cap):=by
   refine .list _ _ bl off cap (fun i j=>(cs i).getD j undef) ?_ ?_ (fun i j hi hj=>?_) (fun i j hi hj=>?_)
   .show ((List.range len).map E).length<=maxLen
    rw[hlen];exact Nat.le_trans hl hm
   .show ((List.range len).map E).length<=cap
    rw[hlen];exact hl
   · have hi' : i < len := by have : i < ((List.range len).map E).length := hi
                              rwa [hlen]at this
     obtain⟨_,h2,h3⟩:=World.cells?_some (hcs i (by omega)).1
     have:=h3 j (by rw[hc];exact hj)
     rw[zeC,zeC,hc]at this
     show w.cell? ⟨bl,off+i*wid a+j,none⟩=_
     rw[this,List.getD_eq_getElem?_getD,List.getElem?_eq_getElem (by rw[h2,hc];exact hj)]
     rfl
   · have hi' : i < len := by have : i < ((List.range len).map E).length := hi
                              rwa [hlen]at this
     show zR _ (cell a (((List.range len).map E).getD i (dfl a)) j) _
     rw[hget i hi']
     exact(hE i (by omega)).1 j hj
  have hn:(Rows.dat a ((List.range len).map E)).n=len:=hlen
  rw[hn]at key
  exact .p _ _ key
end
end Go.Am
