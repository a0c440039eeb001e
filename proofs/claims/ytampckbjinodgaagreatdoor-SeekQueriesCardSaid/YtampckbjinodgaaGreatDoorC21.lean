/-
  Lifted functions, and facts about them.
-/
import Derived.Test.YtampckbjinodgaaGreatDoorRows
import Derived.Test.YtampckbjinodgaaGreatDoorC01
import Derived.Test.YtampckbjinodgaaGreatDoorAmC
import Derived.Test.YtampckbjinodgaaGreatDoorC20
import Derived.Test.YtampckbjinodgaaGreatDoorC12
set_option linter.unusedVariables false
noncomputable section
namespace Go.Proofs.YtampckbjinodgaaGreatDoor
open Go Go.Am
def zqh:=mkG [] [] 18 [] [([0,1,0,1],⟨[0,1,5],[]⟩)] []
def zfC(F f1:Nat)(l:List Int)(n vi1:Int):=zH zqh Tryz.f33 F [] [1,0,1,0] f1 [(0,pL 1 (.int .i64) l),(1,pI n),(5,pI vi1)] []
def zqm(F:Nat)(l:List Int)(n:Int):=zF zqh Tryz.f33 F [pL 1 (.int .i64) l,pI n]
theorem zia(F f1 l n vi1):letI A:=(l.length:Int);zfC F (f1+1) l n vi1=cond (decide (vi1<A)) (ze (0<=vi1/\vi1<A) (cond ((l.getD vi1.toNat (0:Int))==n) (some (.p (.bool true),[])) (ze (zh (vi1+1)) (zfC F f1 l n (vi1+1))))) (some (.p (.bool false),[])):=by kernel_rfl
theorem zyq(F l n):zqm F l n=zfC F F l n 0:=by kernel_rfl
theorem zAS(F l n r):IsP 33 (zqm F l n) [.p (.list 1 (.dat (.int .i64) l)),.p (.int .i64 n)] r:=zG zqh rfl trivial
theorem zji(F:Nat)(l:List Int)(n:Int)(hl:l.length<=1000000):∀ (r:List Int) (f i:Nat),l.drop i=r->i+r.length=l.length->r.length<f->
 zfC F f l n (i:Int)=some (.p (.bool (r.any (n==·))),[])
 | [],f,i,hd,hi,hf=>by
  obtain⟨f,rfl⟩:∃ k,f=k+1:=⟨f-1,by omega⟩
  have hi:i=l.length:=by simpa using hi
  rw[zia]
  exact zg (decide_eq_false (by omega)) rfl
 | x::r,f,i,hd,hi,hf=>by
  obtain⟨f,rfl⟩:∃ k,f=k+1:=⟨f-1,by omega⟩
  obtain⟨hg,hd2,hlt⟩:=yF hd (0:Int)
  rw[List.length_cons]at hi hf
  have hs:(x==n)=(n==x):=by rw[Bool.eq_iff_iff,beq_iff_eq,beq_iff_eq];exact eq_comm
  rw[zia,Int.toNat_natCast,hg,List.any_cons,hs]
  refine zi (decide_eq_true (by omega)) (zd ⟨by omega,by omega⟩ ?_)
  cases hc:n==x with
  | true=>rfl
  | false=>
   refine zg rfl (zd (by unfold zh;omega) ?_)
   rw[show((i:Int)+1)=((i+1:Nat):Int) by omega,Bool.false_or]
   exact zji F l n hl r f (i+1) hd2 (by omega) (by omega)
theorem zz5(l:List Int)(n:Int)(hl:l.length<=1000000):zqm (l.length+1) l n=some (.p (.bool (l.any (n==·))),[]):=by
 rw[zyq]
 exact zji _ l n hl l _ 0 rfl (by simp) (by omega)
def zit:List AV->Option (AV×Option Prop)
 | [.p l,.p (.int .i64 n)]=>match zA zbu l with
  | some l=>some (.p (.bool (l.any (n==·))),some (l.length<=1000000))
  | none=>none
 | _=>none
theorem zAr:zn Tryz.prog 33 zit:=by
 intro zs r ok he hok
 unfold zit at he
 split at he
 .rename_i l' n
  split at he
  .rename_i l hl
   cases he
   exact⟨by kernel_rfl,FnP.lq (ys:=[.p (.list 1 (.dat zbu l)),.p (.int .i64 n)]) ⟨Lq.list (a:=zbu) hl,Lq.refl _,trivial⟩ (zAS _ l n _ fun _=>zz5 l n hok)⟩
  .cases he
 .cases he
def zvr:=mkG [] [] 26 [] [([0,1,0,1,1],⟨[0,1,5],[]⟩)] []
def zhE(F f1:Nat)(l m:List Int)(vi1:Int):=zH zvr Tryz.f17 F [] [1,1,0,1,0] f1 [(0,pL 1 (.int .i64) l),(1,pL 1 (.int .i64) m),(5,pI vi1)] []
def zvK(F:Nat)(l m:List Int):=zF zvr Tryz.f17 F [pL 1 (.int .i64) l,pL 1 (.int .i64) m]
theorem zkA(F f1 l m vi1):letI A:=(l.length:Int);zhE F (f1+1) l m vi1=cond (decide (vi1<A)) (ze (0<=vi1/\vi1<A) (ze (0<=vi1/\vi1<(m.length:Int)) (cond ((l.getD vi1.toNat (0:Int)) != (m.getD vi1.toNat (0:Int))) (some (.p (.bool false),[])) (ze (zh (vi1+1)) (zhE F f1 l m (vi1+1)))))) (some (.p (.bool true),[])):=by kernel_rfl
theorem zBW(F l m):zvK F l m=cond ((l.length:Int) != (m.length:Int)) (some (.p (.bool false),[])) (zhE F F l m 0):=by kernel_rfl
theorem zGg(F l m r):IsP 17 (zvK F l m) [.p (.list 1 (.dat (.int .i64) l)),.p (.list 1 (.dat (.int .i64) m))] r:=zG zvr rfl trivial
theorem zms(F:Nat)(l m:List Int)(hl:l.length<=1000000)(hm:l.length=m.length):∀ (r s:List Int) (f i:Nat),l.drop i=r->m.drop i=s->i+r.length=l.length->r.length<f->
 zhE F f l m (i:Int)=some (.p (.bool (r==s)),[])
 | [],s,f,i,hd,hs,hi,hf=>by
  obtain⟨f,rfl⟩:∃ k,f=k+1:=⟨f-1,by omega⟩
  have hi:i=l.length:=by simpa using hi
  have:s=[]:=by rw[<-hs];exact List.drop_eq_nil_of_le (by omega)
  subst this
  rw[zkA]
  exact zg (decide_eq_false (by omega)) rfl
 | x::r,[],f,i,hd,hs,hi,hf=>by
  have:=congrArg List.length hs
  rw[List.length_drop]at this
  simp at this hi
  omega
 | x::r,y::s,f,i,hd,hs,hi,hf=>by
  obtain⟨f,rfl⟩:∃ k,f=k+1:=⟨f-1,by omega⟩
  obtain⟨hg,hd2,hlt⟩:=yF hd (0:Int)
  obtain⟨hg2,hs2,_⟩:=yF hs (0:Int)
  rw[List.length_cons]at hi hf
  rw[zkA,Int.toNat_natCast,hg,hg2]
  refine zi (decide_eq_true (by omega)) (zd ⟨by omega,by omega⟩ (zd ⟨by omega,by omega⟩ ?_))
  by_cases hc:x=y
  .subst hc
   refine zg (by simp) (zd (by unfold zh;omega) ?_)
   rw[show((i:Int)+1)=((i+1:Nat):Int) by omega,zms F l m hl hm r s f (i+1) hd2 hs2 (by omega) (by omega)]
   simp
  .refine zi (bne_iff_ne.2 hc) ?_
   have:(x::r==y::s)=false:=beq_eq_false_iff_ne.2 fun e=>hc (by injection e)
   rw[this]
theorem zFe(l m:List Int)(hl:l.length<=1000000):zvK (l.length+1) l m=some (.p (.bool (l==m)),[]):=by
 rw[zBW]
 by_cases h:l.length=m.length
 .exact zg (bne_eq_false_iff_eq.2 (by omega)) (zms _ l m hl h l m _ 0 rfl rfl (by simp) (by omega))
 .have:(l==m)=false:=beq_eq_false_iff_ne.2 fun e=>h (by rw[e])
  rw[this]
  exact zi (bne_iff_ne.2 (by omega)) rfl
def zll:List AV->Option (AV×Option Prop)
 | [.p l,.p m]=>match zA zbu l,zA zbu m with
  | some l,some m=>some (.p (.bool (l==m)),some (l.length<=1000000))
  | _,_=>none
 | _=>none
theorem zFx:zn Tryz.prog 17 zll:=by
 intro zs r ok he hok
 unfold zll at he
 split at he
 .rename_i l' m'
  split at he
  .rename_i l m hl hm
   cases he
   exact⟨by kernel_rfl,FnP.lq (ys:=[.p (.list 1 (.dat zbu l)),.p (.list 1 (.dat zbu m))]) ⟨Lq.list (a:=zbu) hl,Lq.list (a:=zbu) hm,trivial⟩ (zGg _ l m _ fun _=>zFe l m hok)⟩
  .cases he
 .cases he
abbrev dM:zq:=((0:Int),((0:Int),(([]:List UInt8),((0:Int),(([]:List (List UInt8)),(([]:List (Int×Int)),((0:Int),(0:Int))))))))
abbrev LtM(o:List (Elt zM))(a b:zq):Prop:=LtF o (qel a) (qel b)
theorem zD8{o:List (Elt zM)}{a b:zq}:LtM o a b↔zrJ o a b<0:=by rw[<-zx0];exact Iff.rfl
abbrev zIw(l:List zq)(f:List zr)(_:List (Elt zM)):Prop:=zbI f/\l.length<=30/\(l.Pairwise fun x y=>x.1≠y.1)/\∀ m ∈ l,m.2.2.1.length<=30000/\zIx f m
theorem zsY{P Q:List zq}{u:zq}{n:Nat}(h:n=P.length)(d:zq):(P++u::Q).getD n d=u:=by
 subst h;simp
theorem zwO{P Q:List zq}{u v:zq}{n:Nat}(h:n=P.length):(P++u::Q).set n v=P++v::Q:=by
 subst h;simp
def zbo:=mkG [(31,zlm),(32,zlj)] [] 87 [] [([0,1,0,1,1],⟨[0,1,2,7,8],[⟨.slot 7,7,(.larr 26 true 8 (.dat zE ([]:List zq)))⟩]⟩),([1,0,0,0,1,0,0,1,0,1,1],⟨[0,1,2,7,8,25],[⟨.slot 7,7,(.larr 26 true 8 (.dat zE ([]:List zq)))⟩]⟩),([0,0,1,1,0,0,1,0,0,1,0,1,1],⟨[0,1,2,7,8,9],[⟨.slot 7,7,(.larr 26 true 8 (.dat zE ([]:List zq)))⟩]⟩),([1,0,0,0,0,1,1,0,0,1,0,0,1,0,1,1],⟨[0,1,2,7,8,9,42],[⟨.slot 7,7,(.larr 26 true 8 (.dat zE ([]:List zq)))⟩]⟩),([1,1,1,1,0,0,1,0,0,1,0,1,1],⟨[0,1,2,7,8,9],[⟨.slot 7,7,(.larr 26 true 8 (.dat zE ([]:List zq)))⟩]⟩),([0,1,0,1,1,1,1,0,0,1,0,0,1,0,1,1],⟨[0,1,2,7,8,9,10],[⟨.slot 7,7,(.larr 26 true 8 (.dat zE ([]:List zq)))⟩]⟩),([1,1,0,0,1,0,1,1,1,1,0,0,1,0,0,1,0,1,1],⟨[0,1,2,7,8,9,10],[⟨.slot 7,7,(.larr 26 true 8 (.dat zE ([]:List zq)))⟩]⟩),([1,1,0,0,1,0,1,1],⟨[0,1,2,7,8],[⟨.slot 7,7,(.larr 26 true 8 (.dat zE ([]:List zq)))⟩]⟩),([0,1,0,1,1,1,1],⟨[7,11,12],[⟨.slot 7,7,(.larr 26 true 8 (.dat zE ([]:List zq)))⟩,⟨.slot 11,11,(.larr 3 false 1 (.dat (.int .i64) ([]:List Int)))⟩]⟩),([1,1,0,0,1,0,1,1,1,1],⟨[7,11,12],[⟨.slot 7,7,(.larr 26 true 8 (.dat zE ([]:List zq)))⟩,⟨.slot 11,11,(.larr 3 false 1 (.dat (.int .i64) ([]:List Int)))⟩]⟩)] []
def zhw(F f1:Nat)(l:List zq)(f:List zr)(o:List (Int×List UInt8×Bool))(vi1:Int)(vl2:List zq):=zH zbo Tryz.f18 F [] [1,1,0,1,0] f1 [(0,pL 8 zE l),(1,pL 6 zu f),(2,pL 3 (.pair (.int .i64) (.pair .str .bool)) o),(7,.arr 7),(8,pI vi1)] [(7,.larr 26 true 8 (.dat zE vl2))]
def zmd(F f1:Nat)(l:List zq)(f:List zr)(o:List (Int×List UInt8×Bool))(vi1:Int)(vc3:Bool)(vl2:List zq):=zx zbo Tryz.f18 F [f1] [1,1,0,1,0,0,1,0,0,0,1] [(0,pL 8 zE l),(1,pL 6 zu f),(2,pL 3 (.pair (.int .i64) (.pair .str .bool)) o),(7,.arr 7),(8,pI vi1),(25,pB vc3)] [(7,.larr 26 true 8 (.dat zE vl2))]
def zcb(F f1:Nat)(l:List zq)(f:List zr)(o:List (Int×List UInt8×Bool))(vi1:Int)(vl4:List zq):=zx zbo Tryz.f18 F [f1] [1,1,0,1,0,0,1,1] [(0,pL 8 zE l),(1,pL 6 zu f),(2,pL 3 (.pair (.int .i64) (.pair .str .bool)) o),(7,.arr 7),(8,pI vi1)] [(7,.larr 26 true 8 (.dat zE vl4))]
def zeX(F f1 f2:Nat)(l:List zq)(f:List zr)(o:List (Int×List UInt8×Bool))(vi1 vi5:Int)(vl6:List zq):=zH zbo Tryz.f18 F [f1] [1,1,0,1,0,0,1,0,0,1,1,0,0] f2 [(0,pL 8 zE l),(1,pL 6 zu f),(2,pL 3 (.pair (.int .i64) (.pair .str .bool)) o),(7,.arr 7),(8,pI vi1),(9,pI vi5)] [(7,.larr 26 true 8 (.dat zE vl6))]
def zhv(F f1 f2:Nat)(l:List zq)(f:List zr)(o:List (Int×List UInt8×Bool))(vi1 vi5:Int)(vc7:Bool)(vl6:List zq):=zx zbo Tryz.f18 F [f1,f2] [1,1,0,1,0,0,1,0,0,1,1,0,0,0,0,1] [(0,pL 8 zE l),(1,pL 6 zu f),(2,pL 3 (.pair (.int .i64) (.pair .str .bool)) o),(7,.arr 7),(8,pI vi1),(9,pI vi5),(42,pB vc7)] [(7,.larr 26 true 8 (.dat zE vl6))]
def ztz(F f1:Nat)(l:List zq)(f:List zr)(o:List (Int×List UInt8×Bool))(vi1 vi5:Int)(vl8:List zq):=zx zbo Tryz.f18 F [f1] [1,1,0,1,0,0,1,0,0,1,1,1,1] [(0,pL 8 zE l),(1,pL 6 zu f),(2,pL 3 (.pair (.int .i64) (.pair .str .bool)) o),(7,.arr 7),(8,pI vi1),(9,pI vi5)] [(7,.larr 26 true 8 (.dat zE vl8))]
def zeW(F f1 f3:Nat)(l:List zq)(f:List zr)(o:List (Int×List UInt8×Bool))(vi1 vi5 vi9:Int)(vl10:List zq):=zH zbo Tryz.f18 F [f1] [1,1,0,1,0,0,1,0,0,1,1,1,1,0,1,0] f3 [(0,pL 8 zE l),(1,pL 6 zu f),(2,pL 3 (.pair (.int .i64) (.pair .str .bool)) o),(7,.arr 7),(8,pI vi1),(9,pI vi5),(10,pI vi9)] [(7,.larr 26 true 8 (.dat zE vl10))]
def zty(F f1 f3:Nat)(l:List zq)(f:List zr)(o:List (Int×List UInt8×Bool))(vi1 vi5 vi9:Int)(vl11:List zq):=zx zbo Tryz.f18 F [f1,f3] [1,1,0,1,0,0,1,0,0,1,1,1,1,0,1,0,0,1,1] [(0,pL 8 zE l),(1,pL 6 zu f),(2,pL 3 (.pair (.int .i64) (.pair .str .bool)) o),(7,.arr 7),(8,pI vi1),(9,pI vi5),(10,pI vi9)] [(7,.larr 26 true 8 (.dat zE vl11))]
def zhu(F f4:Nat)(vi12:Int)(vl13:List zq)(vl14:List Int):=zH zbo Tryz.f18 F [] [1,1,1,1,0,1,0] f4 [(7,.arr 7),(11,.arr 11),(12,pI vi12)] [(7,.larr 26 true 8 (.dat zE vl13)),(11,.larr 3 false 1 (.dat (.int .i64) vl14))]
def zqQ(F f4:Nat)(vi12:Int)(vl13:List zq)(vl15:List Int):=zx zbo Tryz.f18 F [f4] [1,1,1,1,0,1,0,0,1,1] [(7,.arr 7),(11,.arr 11),(12,pI vi12)] [(7,.larr 26 true 8 (.dat zE vl13)),(11,.larr 3 false 1 (.dat (.int .i64) vl15))]
def zvD(F:Nat)(l:List zq)(f:List zr)(o:List (Int×List UInt8×Bool)):=zF zbo Tryz.f18 F [pL 8 zE l,pL 6 zu f,pL 3 (.pair (.int .i64) (.pair .str .bool)) o]
theorem zkm(F f1 l f o vi1 vl2):letI A:=l.getD vi1.toNat ((0:Int),((0:Int),([],((0:Int),([],([],((0:Int),(0:Int))))))));letI B:=(l.length:Int);zhw F (f1+1) l f o vi1 vl2=cond (decide (vi1<B)) (ze (0<=vi1/\vi1<B) (ze (zIx f (A.1,(A.2.1,(A.2.2.1,(A.2.2.2.1,(A.2.2.2.2.1,(A.2.2.2.2.2.1,(A.2.2.2.2.2.2.1,A.2.2.2.2.2.2.2)))))))) (zmd F f1 l f o vi1 (!(zbL f (A.1,(A.2.1,(A.2.2.1,(A.2.2.2.1,(A.2.2.2.2.1,(A.2.2.2.2.2.1,(A.2.2.2.2.2.2.1,A.2.2.2.2.2.2.2))))))))) vl2))) (zhu F F 0 vl2 ([]:List Int)):=by kernel_rfl
theorem zwd(F f1 l f o vi1 vc3 vl2):zmd F f1 l f o vi1 vc3 vl2=cond vc3 (zcb F f1 l f o vi1 vl2) (zeX F f1 f1 l f o vi1 (vl2.length:Int) vl2):=by kernel_rfl
theorem zwc(F f1 l f o vi1 vl4):zcb F f1 l f o vi1 vl4=ze (zh (vi1+1)) (zhw F f1 l f o (vi1+1) vl4):=by kernel_rfl
theorem zkl(F f1 f2 l f o vi1 vi5 vl6):letI B:=l.getD vi1.toNat ((0:Int),((0:Int),([],((0:Int),([],([],((0:Int),(0:Int))))))));letI C:=decide (vi5>0);letI D:=vi5-1;letI A:=vl6.getD D.toNat ((0:Int),((0:Int),([],((0:Int),([],([],((0:Int),(0:Int))))))));zeX F f1 (f2+1) l f o vi1 vi5 vl6=ze (C=true->0<=vi1/\vi1<(l.length:Int)) (ze (C=true->zh D) (ze (C=true->0<=D/\D<(vl6.length:Int)) (ze (C=true->D.toNat<vl6.length) (ze (C=true->zGL (B.1,(B.2.1,(B.2.2.1,(B.2.2.2.1,(B.2.2.2.2.1,(B.2.2.2.2.2.1,(B.2.2.2.2.2.2.1,B.2.2.2.2.2.2.2))))))) (A.1,(A.2.1,(A.2.2.1,(A.2.2.2.1,(A.2.2.2.2.1,(A.2.2.2.2.2.1,(A.2.2.2.2.2.2.1,A.2.2.2.2.2.2.2)))))))) (zhv F f1 f2 l f o vi1 vi5 (C&&(decide (zrJ o (B.1,(B.2.1,(B.2.2.1,(B.2.2.2.1,(B.2.2.2.2.1,(B.2.2.2.2.2.1,(B.2.2.2.2.2.2.1,B.2.2.2.2.2.2.2))))))) (A.1,(A.2.1,(A.2.2.1,(A.2.2.2.1,(A.2.2.2.2.1,(A.2.2.2.2.2.1,(A.2.2.2.2.2.2.1,A.2.2.2.2.2.2.2)))))))<0))) vl6))))):=letI A:=(decide (vi5>0))=true;Eq.trans (by kernel_rfl) (nI A (nI A (zf (nI A (nI A (zf (nI A (nI A (zf (nI A (zf (nI A (nI A (nI A (zf (nI A rfl))))))))))))))))
theorem zkk(F f1 f2 l f o vi1 vi5 vc7 vl6):letI A:=(0:Int);letI B:=([]:List UInt8);zhv F f1 f2 l f o vi1 vi5 vc7 vl6=cond vc7 (ze (zh (vi5-1)) (zeX F f1 f2 l f o vi1 (vi5-1) vl6)) (ze ((vl6.length+([(A,(A,(B,(A,([],([],(A,A)))))))]:List zq).length)*104<=140737488355328) (ztz F f1 l f o vi1 vi5 (vl6++([(A,(A,(B,(A,([],([],(A,A)))))))]:List zq)))):=by kernel_rfl
theorem zwb(F f1 l f o vi1 vi5 vl8):letI A:=(vl8.length:Int)-1;ztz F f1 l f o vi1 vi5 vl8=ze (zh A) (zeW F f1 f1 l f o vi1 vi5 A vl8):=by kernel_rfl
theorem zkj(F f1 f3 l f o vi1 vi5 vi9 vl10):letI B:=l.getD vi1.toNat ((0:Int),((0:Int),([],((0:Int),([],([],((0:Int),(0:Int))))))));letI C:=(vl10.length:Int);letI D:=vi9-1;letI A:=vl10.getD D.toNat ((0:Int),((0:Int),([],((0:Int),([],([],((0:Int),(0:Int))))))));zeW F f1 (f3+1) l f o vi1 vi5 vi9 vl10=cond (decide (vi9>vi5)) (ze (zh D) (ze (0<=D/\D<C) (ze (D.toNat<vl10.length) (ze (0<=vi9/\vi9<C) (ze (vi9.toNat<vl10.length) (zty F f1 f3 l f o vi1 vi5 vi9 (vl10.set vi9.toNat (A.1,(A.2.1,(A.2.2.1,(A.2.2.2.1,(A.2.2.2.2.1,(A.2.2.2.2.2.1,(A.2.2.2.2.2.2.1,A.2.2.2.2.2.2.2)))))))))))))) (ze (0<=vi1/\vi1<(l.length:Int)) (ze (0<=vi5/\vi5<C) (ze (vi5.toNat<vl10.length) (zcb F f1 l f o vi1 (vl10.set vi5.toNat (B.1,(B.2.1,(B.2.2.1,(B.2.2.2.1,(B.2.2.2.2.1,(B.2.2.2.2.2.1,(B.2.2.2.2.2.2.1,B.2.2.2.2.2.2.2)))))))))))):=by kernel_rfl
theorem zwa(F f1 f3 l f o vi1 vi5 vi9 vl11):zty F f1 f3 l f o vi1 vi5 vi9 vl11=ze (zh (vi9-1)) (zeW F f1 f3 l f o vi1 vi5 (vi9-1) vl11):=by kernel_rfl
theorem zki(F f4 vi12 vl13 vl14):letI A:=vl13.getD vi12.toNat ((0:Int),((0:Int),([],((0:Int),([],([],((0:Int),(0:Int))))))));letI B:=(vl13.length:Int);zhu F (f4+1) vi12 vl13 vl14=cond (decide (vi12<B)) (ze (0<=vi12/\vi12<B) (ze (vi12.toNat<vl13.length) (ze ((vl14.length+([A.1]:List Int).length)*8<=140737488355328) (zqQ F f4 vi12 vl13 (vl14++([A.1]:List Int)))))) (some (.p (.list 1 (.dat (.int .i64) vl14)),[])):=by kernel_rfl
theorem zrR(F f4 vi12 vl13 vl15):zqQ F f4 vi12 vl13 vl15=ze (zh (vi12+1)) (zhu F f4 (vi12+1) vl13 vl15):=by kernel_rfl
theorem zBL(F l f o):zvD F l f o=zhw F F l f o 0 ([]:List zq):=by kernel_rfl
theorem zF8(F l f o r):IsP 18 (zvD F l f o) [.p (.list 8 (.dat zE l)),.p (.list 6 (.dat zu f)),.p (.list 3 (.dat (.pair (.int .i64) (.pair .str .bool)) o))] r:=zG zbo rfl ⟨zFy.any,zFu.any,trivial⟩
theorem rq_7(F f1:Nat)(l:List zq)(f:List zr)(o:List (Elt zM))(i:Nat)(x:zq)(hi:i<l.length)(hx:l.getD i dM=x)(hl:l.length<=30)(A:List zq):∀ (n f3:Nat) (B:List zq) (w:zq) (D:List zq),B.length=n->n<f3->A.length+(B.length+(1+D.length))<=1000->
 zeW F f1 f3 l f o (i:Int) (A.length:Int) ((A.length+B.length:Nat):Int) (A++(B++w::D))=zcb F f1 l f o (i:Int) (A++(x::(B++D))):=by
 intro n
 induction n with
 | zero=>
  intro f3 B w D hB hf hlen
  obtain⟨f3,rfl⟩:∃ k,f3=k+1:=⟨f3-1,by omega⟩
  have:B=[]:=List.eq_nil_of_length_eq_zero hB
  subst this
  have el:(A++(([]:List zq)++w::D)).length=A.length+(1+D.length):=by simp;omega
  rw[zkj]
  simp only[Int.toNat_natCast,hx]
  refine zg (decide_eq_false (by simp)) (zd ⟨by omega,by omega⟩ (zd (by rw[el];omega) (zd (by rw[el];omega) ?_)))
  rw[List.nil_append,List.nil_append,zwO rfl]
 | succ n ih=>
  intro f3 B w D hB hf hlen
  obtain⟨f3,rfl⟩:∃ k,f3=k+1:=⟨f3-1,by omega⟩
  obtain⟨B,y,rfl⟩:∃ A' y,B=A'++[y]:=by
   rcases List.eq_nil_or_concat B with rfl|⟨A',y,rfl⟩
   .simp at hB
   .exact ⟨A',y,List.concat_eq_append⟩
  have hB:B.length=n:=by simpa using hB
  have hlen:A.length+(B.length+1+(1+D.length))<=1000:=by simpa using hlen
  have el:(A++(B++[y]++w::D)).length=A.length+(B.length+1+(1+D.length)):=by simp;omega
  have e0:A++(B++[y]++w::D)=(A++B)++y::w::D:=by simp
  have e1:A++(B++[y]++w::D)=(A++(B++[y]))++w::D:=by simp
  have tn:(((A.length+(B++[y]).length:Nat):Int)).toNat=A.length+B.length+1:=by simp;omega
  have tm:(((A.length+(B++[y]).length:Nat):Int)-(1:Int)).toNat=A.length+B.length:=by simp;omega
  have tj:((A.length+(B++[y]).length:Nat):Int)=((A.length+B.length:Nat):Int)+1:=by simp;omega
  have g0:∀ d,(A++(B++[y]++w::D)).getD (A.length+B.length) d=y:=fun d=>by rw[e0];exact zsY (by simp) d
  rw[zkj,tn,tm]
  simp only[g0]
  refine zi (decide_eq_true (by omega)) (zd (by unfold zh;omega) (zd (by rw[el];omega) (zd (by rw[el];omega) (zd (by rw[el];omega) (zd (by rw[el];omega) ?_)))))
  rw[zwa]
  refine zd (by unfold zh;omega) ?_
  show zeW F f1 f3 l f o (i:Int) (A.length:Int) (((A.length+(B++[y]).length:Nat):Int)-1) ((A++(B++[y]++w::D)).set (A.length+B.length+1) y)=_
  rw[e1,zwO (by simp;omega),tj,Int.add_sub_cancel,show A++(B++[y])++y::D=A++(B++y::(y::D)) by simp]
  rw[ih f3 B y (y::D) hB (by omega) (by simp;omega)]
  simp
theorem rq_4(F f1:Nat)(l:List zq)(f:List zr)(o:List (Elt zM))(i:Nat)(x:zq)(hi:i<l.length)(hx:l.getD i dM=x)(hl:l.length<=30)(hxs:x.2.2.1.length<=30000)(hf1:40<f1):∀ (n f2:Nat) (A B:List zq),A.length=n->n<f2->A.length+B.length<=30->
 (A++B).Pairwise (LtM o)->(∀ z ∈ A++B,z.1≠x.1/\z.2.2.1.length<=30000)->(∀ z ∈ B,LtM o x z)->
 ∃ acc,acc.Perm (A++x::B)/\acc.Pairwise (LtM o)/\zeX F f1 f2 l f o (i:Int) (A.length:Int) (A++B)=zcb F f1 l f o (i:Int) acc:=by
 intro n
 have hstop:∀ (f2:Nat) (A B:List zq),A.length+B.length<=30->zhv F f1 f2 l f o (i:Int) (A.length:Int) false (A++B)=zcb F f1 l f o (i:Int) (A++x::B):=fun f2 A B hAB=>by
  rw[zkk]
  refine zg rfl (zd (by simp;omega) ?_)
  rw[zwb]
  refine zd (by unfold zh;simp;omega) ?_
  have:=rq_7 F f1 l f o i x hi hx hl A B.length f1 B dM [] rfl (by omega) (by simp;omega)
  rw[List.append_nil]at this
  rw[<-this]
  have e:(((A++B++([((0:Int),((0:Int),(([]:List UInt8),((0:Int),([],([],((0:Int),(0:Int))))))))]:List zq)).length:Nat):Int)-1=((A.length+B.length:Nat):Int):=by simp;omega
  rw[e,List.append_assoc]
 induction n with
 | zero=>
  intro f2 A B hA hf hAB hs hid hb
  obtain⟨f2,rfl⟩:∃ k,f2=k+1:=⟨f2-1,by omega⟩
  have:A=[]:=List.eq_nil_of_length_eq_zero hA
  subst this
  refine⟨[]++x::B,.refl _,List.pairwise_cons.2 ⟨hb,hs⟩,?_⟩
  have hg:decide (((([]:List zq).length:Nat):Int)>(0:Int))=false:=rfl
  rw[zkl,hg]
  iterate 5 refine zd (fun h=>absurd h (by decide)) ?_
  rw[Bool.false_and]
  exact hstop f2 [] B hAB
 | succ n ih=>
  intro f2 A B hA hf hAB hs hid hb
  obtain⟨f2,rfl⟩:∃ k,f2=k+1:=⟨f2-1,by omega⟩
  obtain⟨A,y,rfl⟩:∃ A' y,A=A'++[y]:=by
   rcases List.eq_nil_or_concat A with rfl|⟨A',y,rfl⟩
   .simp at hA
   .exact ⟨A',y,List.concat_eq_append⟩
  have hA:A.length=n:=by simpa using hA
  have hAB:A.length+1+B.length<=30:=by simpa using hAB
  have el:(A++[y]++B).length=A.length+1+B.length:=by simp;omega
  have e0:A++[y]++B=A++y::B:=by simp
  have tm:(((A++[y]).length:Nat):Int)-(1:Int)=(A.length:Int):=by simp
  have g0:∀ d,(A++[y]++B).getD A.length d=y:=fun d=>by rw[e0];exact zsY rfl d
  have hg:decide ((((A++[y]).length:Nat):Int)>(0:Int))=true:=decide_eq_true (by rw[List.length_append,List.length_singleton];omega)
  obtain⟨hy1,hy2⟩:=hid y (by simp)
  have hstep:zeX F f1 (f2+1) l f o (i:Int) ((A++[y]).length:Int) (A++[y]++B)=zhv F f1 f2 l f o (i:Int) ((A++[y]).length:Int) (decide (zrJ o x y<0)) (A++[y]++B):=by
   rw[zkl,hg,tm,Int.toNat_natCast,Int.toNat_natCast,hx]
   simp only[g0]
   exact zd (fun _=>⟨by omega,by omega⟩) (zd (fun _=>by unfold zh;omega) (zd (fun _=>by rw[el];omega) (zd (fun _=>by rw[el];omega) (zd (fun _=>⟨hxs,hy2⟩) rfl))))
  by_cases hc:LtM o x y
  .have hs':=hs
   rw[List.append_assoc]at hs'
   obtain⟨acc,p1,p2,p3⟩:=ih f2 A (y::B) hA (by omega) (by simp;omega) hs' (fun z hz=>hid z (by simpa using hz)) (fun z hz=>by
    rcases List.mem_cons.1 hz with rfl|hz
    .exact hc
    .exact hb z hz)
   refine⟨acc,p1.trans ?_,p2,?_⟩
   .rw [List.append_assoc]
    exact List.Perm.append_left A (List.Perm.swap y x B)
   .rw [hstep,decide_eq_true (zD8.1 hc),zkk]
    refine zi rfl (zd (by unfold zh;omega) ?_)
    rw[tm,e0]
    exact p3
  .have hyx:LtM o y x:=LtF.of_not hc (fun e=>hy1 e.symm)
   refine⟨A++[y]++x::B,.refl _,?_,?_⟩
   .rw [List.pairwise_append]at hs ⊢
    obtain⟨q1,q2,q3⟩:=hs
    refine⟨q1,List.pairwise_cons.2 ⟨hb,q2⟩,fun a ha z hz=>?_⟩
    rcases List.mem_cons.1 hz with rfl|hz
    .rcases List.mem_append.1 ha with ha'|ha'
     .rw [List.pairwise_append]at q1
      exact LtF.trans (q1.2.2 a ha' y (by simp)) hyx
     .rw [List.mem_singleton.1 ha'];exact hyx
    .exact q3 a ha z hz
   .rw [hstep,decide_eq_false (fun q=>hc (zD8.2 q))]
    exact hstop f2 (A++[y]) B (by simp;omega)
theorem rq_9(F:Nat)(m:List zq)(hm:m.length<=1000):∀ (r:List zq) (f4 i:Nat) (acc:List Int),m.drop i=r->i+r.length=m.length->r.length<f4->acc.length=i->
 zhu F f4 (i:Int) m acc=some (.p (.list 1 (.dat (.int .i64) (acc++r.map fun x=>x.1))),[])
 | [],f4,i,acc,hd,hi,hf,ha=>by
  obtain⟨f4,rfl⟩:∃ k,f4=k+1:=⟨f4-1,by omega⟩
  have hi:i=m.length:=by simpa using hi
  rw[zki]
  exact zg (decide_eq_false (by omega)) (by simp)
 | x::r,f4,i,acc,hd,hi,hf,ha=>by
  obtain⟨f4,rfl⟩:∃ k,f4=k+1:=⟨f4-1,by omega⟩
  obtain⟨hg,hd2,hlt⟩:=yF hd dM
  rw[List.length_cons]at hi hf
  rw[zki,Int.toNat_natCast,hg]
  refine zi (decide_eq_true (by omega)) (zd ⟨by omega,by omega⟩ (zd hlt (zd (by rw[List.length_singleton];omega) ?_)))
  rw[zrR]
  refine zd (by unfold zh;omega) ?_
  rw[show((i:Int)+1)=((i+1:Nat):Int) by omega,rq_9 F m hm r f4 (i+1) _ hd2 (by omega) (by omega) (by simp;omega),List.map_cons,List.append_assoc]
  rfl
theorem rq_1(F:Nat)(l:List zq)(f:List zr)(o:List (Elt zM))(hF:100<F)(h:zIw l f o):∀ (r:List zq) (f1 i:Nat) (acc:List zq),l.drop i=r->i+r.length=l.length->r.length+50<f1->acc.Pairwise (LtM o)->(acc++r.filter (zbL f)).Perm (l.filter (zbL f))->
 zhw F f1 l f o (i:Int) acc=some (.p (.list 1 (.dat (.int .i64) (yP l f o))),[])
 | [],f1,i,acc,hd,hi,hf,hs,hp=>by
  obtain⟨f1,rfl⟩:∃ k,f1=k+1:=⟨f1-1,by omega⟩
  have hi:i=l.length:=by simpa using hi
  rw[List.filter_nil,List.append_nil]at hp
  have hl:=h.2.1
  have hle:=List.length_filter_le (zbL f) l
  have hal:=hp.length_eq
  rw[zkm]
  refine zg (decide_eq_false (by omega)) ((rq_9 F acc (by omega) acc F 0 [] rfl (by simp) (by omega) rfl).trans ?_)
  have hq:acc.map (fun x=>x.1)=yP l f o:=by
   unfold yP
   cases hr:zaq f with
   | false=>
    have he:l.filter (zbL f)=[]:=by
     rw[List.filter_eq_nil_iff]
     intro m _
     unfold zbL
     rw[hr];simp
    rw[he]at hal
    rw[List.eq_nil_of_length_eq_zero hal,if_neg (by simp)]
    rfl
   | true=>
    rw[if_pos rfl,zdb o _ _ rfl]
    have hm:zW o (zbg l f)=acc.map qel:=zcy (hp.map qel) (List.pairwise_map.2 hs)
    rw[hm,List.map_map]
    rfl
  rw[List.nil_append,hq]
 | m::r,f1,i,acc,hd,hi,hf,hs,hp=>by
  obtain⟨f1,rfl⟩:∃ k,f1=k+1:=⟨f1-1,by omega⟩
  obtain⟨hg,hd2,hlt⟩:=yF hd dM
  have hm:m ∈ l:=by rw[<-hg];exact yi hlt _
  rw[List.length_cons]at hi hf
  obtain⟨h1,h2,h3,h4⟩:=id h
  obtain⟨m1,m2⟩:=h4 m hm
  have hnext:∀ acc',acc'.Pairwise (LtM o)->(acc'++r.filter (zbL f)).Perm (l.filter (zbL f))->zcb F f1 l f o (i:Int) acc'=some (.p (.list 1 (.dat (.int .i64) (yP l f o))),[]):=fun acc' q1 q2=>by
   rw[zwc]
   refine zd (by unfold zh;omega) ?_
   rw[show((i:Int)+1)=((i+1:Nat):Int) by omega]
   exact rq_1 F l f o hF h r f1 (i+1) acc' hd2 (by omega) (by omega) q1 q2
  rw[zkm,Int.toNat_natCast,hg]
  refine zi (decide_eq_true (by omega)) (zd ⟨by omega,by omega⟩ (zd m2 ?_))
  show zmd F f1 l f o (i:Int) (!(zbL f m)) acc=_
  rw[zwd]
  cases hc:zbL f m with
  | false=>
   rw[List.filter_cons_of_neg (by rw[hc];simp)]at hp
   exact zi rfl (hnext acc hs hp)
  | true=>
   rw[List.filter_cons_of_pos hc]at hp
   refine zg rfl ?_
   have hids:(acc++m::r.filter (zbL f)).Pairwise fun x y=>x.1≠y.1:=(hp.symm.pairwise_iff (fun h=>Ne.symm h)).1 (h3.filter _)
   have hle:=List.length_filter_le (zbL f) l
   have hal:=hp.length_eq
   rw[List.length_append,List.length_cons]at hal
   have hmem:∀ z ∈ acc,z ∈ l:=fun z hz=>(List.mem_filter.1 (hp.subset (by simp[hz]))).1
   obtain⟨acc',p1,p2,p3⟩:=rq_4 F f1 l f o i m (by omega) hg h2 m1 (by omega) acc.length f1 acc [] rfl (by omega) (by simp;omega) (by simpa using hs) (fun z hz=>by
    have hz:z ∈ acc:=by simpa using hz
    exact⟨(List.pairwise_append.1 hids).2.2 z hz m (by simp),(h4 z (hmem z hz)).1⟩) (fun z hz=>by cases hz)
   rw[List.append_nil]at p3
   rw[p3]
   refine hnext acc' p2 ((p1.append_right _).trans ?_)
   rw[List.append_assoc]
   exact hp
theorem zE3(l:List zq)(f:List zr)(o:List (Elt zM))(h:zIw l f o):zvD 101 l f o=some (.p (.list 1 (.dat (.int .i64) (yP l f o))),[]):=by
 rw[zBL]
 exact rq_1 101 l f o (by omega) h l 101 0 [] rfl (by simp) (by have:=h.2.1;omega) List.Pairwise.nil (List.Perm.refl _)
def zlg:List AV->Option (AV×Option Prop)
 | [.p l,.p f,.p o]=>match zA zE l,zA zu f,zA zM o with
  | some l,some f,some o=>some (.p (.list 1 (.dat (.int .i64) (yP l f o))),some (zIw l f o))
  | _,_,_=>none
 | _=>none
theorem zFr:zn Tryz.prog 18 zlg:=by
 intro zs r ok he hok
 unfold zlg at he
 split at he
 .rename_i l' f' o'
  split at he
  .rename_i l f o hl hf ho
   cases he
   exact⟨by kernel_rfl,FnP.lq (ys:=[.p (.list 8 (.dat zE l)),.p (.list 6 (.dat zu f)),.p (.list 3 (.dat zM o))]) ⟨Lq.list (a:=zE) hl,Lq.list (a:=zu) hf,Lq.list (a:=zM) ho,trivial⟩
    (zF8 101 l f o _ fun _=>zE3 l f o hok)⟩
  .cases he
 .cases he
theorem zTN{l:List Int}{i j:Nat}{v:Int}(h:i≠j):(l.set i v).getD j 0=l.getD j 0:=by
 rw[List.getD_eq_getElem?_getD,List.getElem?_set_ne h,<-List.getD_eq_getElem?_getD]
theorem zsU(i:Int):∀ (ks acc out:List Int),zcA i ks acc=some out->∀ x ∈ ks,0<=x/\x<i
 | [],_,_,_,_,hx=>by cases hx
 | k::r,acc,out,h,x,hx=>by
  rw[zcA]at h
  split at h
  .cases h
  .rename_i hc
   rcases List.mem_cons.1 hx with rfl|hx
   .omega
   .exact zsU i r _ out h x hx
theorem zDL:∀ (r:List zr) (i:Nat) (acc out:List Int),goR i r acc=some out->∀ j,j<r.length->(1<=(r.getD j dT).1/\(r.getD j dT).1<=16)/\∀ x ∈ (r.getD j dT).2.2.2.2.2,0<=x/\x<((i+j:Nat):Int)
 | [],_,_,_,_,j,hj=>by simp at hj
 | t::r,i,acc,out,h,j,hj=>by
  rw[goR]at h
  split at h
  .cases h
  .rename_i hc
   split at h
   .cases h
   .rename_i acc' hk
    cases j with
    | zero=>exact⟨by show 1<=t.1/\t.1<=16;omega,fun x hx=>zsU _ _ _ _ hk x hx⟩
    | succ j=>
     have:=zDL r (i+1) acc' out h j (by simpa using hj)
     rw[show i+(j+1)=i+1+j by omega]
     exact this
theorem zsT(i:Int):∀ (ks acc out:List Int),zcA i ks acc=some out->∀ j:Nat,i<=(j:Int)->out.getD j 0=acc.getD j 0
 | [],acc,out,h,_,_=>by cases h;rfl
 | k::r,acc,out,h,j,hj=>by
  rw[zcA]at h
  split at h
  .cases h
  .rename_i hc
   rw[zsT i r _ out h j hj,zTN (by omega)]
theorem zDK:∀ (r:List zr) (i:Nat) (acc out:List Int),goR i r acc=some out->∀ j,i+r.length<=j+1->out.getD j 0=acc.getD j 0
 | [],i,acc,out,h,_,_=>by cases h;rfl
 | t::r,i,acc,out,h,j,hj=>by
  rw[List.length_cons]at hj
  rw[goR]at h
  split at h
  .cases h
  .split at h
   .cases h
   .rename_i acc' hk
    rw[zDK r (i+1) acc' out h j (by omega),zsT _ _ _ _ hk j (by omega)]
theorem zz9{f:List zr}(h:zaq f=true):f.length<=40/\∃ acc,goR 0 f (List.replicate f.length 0)=some acc/\acc.length=f.length/\(∀ j,j+1<f.length->acc.getD j 0=1)/\(∀ j,f.length=j+1->acc.getD j 0=0):=by
 unfold zaq at h
 split at h
 .cases h
 .rename_i hl
  cases hg:goR 0 f (List.replicate f.length 0)with
  | none=>rw[hg]at h;cases h
  | some acc=>
   rw[hg]at h
   have hlen:=znU _ _ _ _ hg
   rw[List.length_replicate]at hlen
   refine⟨by omega,acc,rfl,hlen,fun j hj=>?_,fun j hj=>?_⟩
   .have hm:acc.getD j 0 ∈ acc.take (f.length-1):=by
     have hlt:j<(acc.take (f.length-1)).length:=by rw[List.length_take];omega
     have:=yi hlt (0:Int)
     rwa [List.getD_eq_getElem?_getD,List.getElem?_take_of_lt (by omega),<-List.getD_eq_getElem?_getD]at this
    exact beq_iff_eq.1 (List.all_eq_true.1 h _ hm)
   .rw [zDK _ _ _ _ hg j (by omega),List.getD_eq_getElem?_getD,List.getElem?_replicate]
    split <;> rfl
abbrev zBu(f:List zr):Prop:=∀ i,i<f.length->∀ x ∈ (f.getD i dT).2.2.2.2.2,0<=x/\x<(i:Int)
theorem zo8{f:List zr}(h:zaq f=true):zBu f:=by
 obtain⟨_,acc,hg,_⟩:=zz9 h
 intro i hi x hx
 have:=(zDL _ _ _ _ hg i hi).2 x hx
 rwa [Nat.zero_add]at this
theorem zDG{p:yd}{f:List zr}(hk:zBu f)(hl:∀ t ∈ f,zfk p t/\t.2.2.2.2.2.length<=1000000):∀ (k i:Nat),i<k->i<f.length->ziM k p f (i:Int)
 | 0,_,h,_=>by omega
 | k+1,i,h,hi=>by
  have hm:f.getD i dT ∈ f:=yi hi _
  rw[ziM,Int.toNat_natCast]
  refine⟨⟨by omega,by omega⟩,(hl _ hm).1,fun _=>⟨(hl _ hm).2,fun x hx=>?_⟩⟩
  have hx2:=hk i hi x hx
  obtain⟨y,rfl⟩:=Int.eq_ofNat_of_zero_le hx2.1
  exact zDG hk hl k y (by omega) (by omega)
abbrev ziB(m:zq):Prop:=m.2.2.1.length<=1000/\m.2.2.2.2.1.length<=40/\m.2.2.2.2.2.1.length<=20
abbrev ziA(t:zr):Prop:=t.2.2.2.1.length<=300/\t.2.2.1.length<=300/\t.2.2.2.2.1.length<=60/\t.2.2.2.2.2.length<=60
theorem zDs{m:zq}{t:zr}(hm:ziB m)(ht:ziA t):zfk (zbX m) t:=by
 obtain⟨m1,m2,m3⟩:=hm
 obtain⟨t1,t2,t3,t4⟩:=ht
 have h1:=zow m.2.2.1 0 (m.2.2.1.length:Int)
 refine⟨by show m.2.2.2.2.2.1.length<=_;omega,by show m.2.2.2.2.1.length<=_;omega,by omega,by show(m.2.2.1.drop _).length<=_;rw[List.length_drop];omega,by omega,by show(zU m.2.2.1 0 (m.2.2.1.length:Int)).1.length<=_;omega,fun g hg=>?_⟩
 have h2:=zcp m.2.2.1 0 (m.2.2.1.length:Int) g hg
 exact⟨by omega,by omega,by omega,by omega⟩
theorem zFW{f:List zr}{m:zq}(hm:ziB m)(ht:∀ t ∈ f,ziA t)(hl:f.length<=40):zAK f m:=by
 refine⟨⟨by omega,fun t h=>by have:=(ht t h).2.2.2;omega⟩,by have:=hm.1;omega,fun hr hn=>?_⟩
 obtain⟨n,hn⟩:∃ n,f.length=n+1:=⟨f.length-1,by omega⟩
 rw[show((f.length:Int)-1)=(n:Int) by omega]
 exact zDG (zo8 hr) (fun t h=>⟨zDs hm (ht t h),by have:=(ht t h).2.2.2;omega⟩) 41 n (by omega) (by omega)
theorem zIf{l:List zq}{f:List zr}{o:List (Elt zM)}(h:zgm l f o=false):(∀ m ∈ l,ziB m)/\(∀ t ∈ f,ziA t)/\l.length<=30/\f.length<=60/\o.length<=10:=by
 unfold zgm at h
 simp only[Bool.or_eq_false_iff,decide_eq_false_iff_not]at h
 obtain⟨⟨⟨h1,h2⟩,h3⟩,h4,h5⟩:=h
 refine⟨fun m hm=>?_,fun t ht=>?_,by omega,by omega,by omega⟩
 .have h6:zx4 m=false:=by
   cases hc:zx4 m with
   | false=>rfl
   | true=>rw[List.any_eq_true.2 ⟨m,hm,hc⟩]at h4;cases h4
  unfold zx4 at h6
  simp only[Bool.or_eq_false_iff,decide_eq_false_iff_not]at h6
  exact⟨by omega,by omega,by omega⟩
 .have h6:zvd t=false:=by
   cases hc:zvd t with
   | false=>rfl
   | true=>rw[List.any_eq_true.2 ⟨t,ht,hc⟩]at h5;cases h5
  unfold zvd at h6
  simp only[Bool.or_eq_false_iff,decide_eq_false_iff_not]at h6
  exact⟨by omega,by omega,by omega,by omega⟩
end Go.Proofs.YtampckbjinodgaaGreatDoor
