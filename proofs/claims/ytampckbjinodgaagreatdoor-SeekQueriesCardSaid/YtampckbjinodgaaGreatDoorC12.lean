/-
  Lifted functions, and facts about them.
-/
import Derived.Test.YtampckbjinodgaaGreatDoorRows
import Derived.Test.YtampckbjinodgaaGreatDoorC01
import Derived.Test.YtampckbjinodgaaGreatDoorAmC
import Derived.Test.YtampckbjinodgaaGreatDoorC11
import Derived.Shelf.Strings.SlTrimAscii
import Derived.ShutString
import Derived.Ground.NamesProg
import Derived.Shelf.Lay
import Derived.Deep.RegionWith
import Derived.WalkMore
import Derived.Tactics
import Derived.Tactics2
import Derived.Defers
import Derived.Laws.Pointers
import Derived.Laws.LoneSync
import Derived.Laws.NewBlocks
import Derived.RegionTactic
import Derived.RegionCalls
import Derived.ChangeAlike
import Derived.OwnWalk
import Derived.Deep.LoopGhost
import Derived.Shelf.Small.Utf8
import Derived.Laws.OwnMore
import Derived.Deep.AppendSrc
import Derived.Deep.WholeRow
set_option linter.unusedVariables false
noncomputable section
namespace Go.Proofs.YtampckbjinodgaaGreatDoor
open Go Go.Am
abbrev zM:Ec:=.pair (.int .i64) (.pair .str .bool)
def zx4(m:zq):Bool:=(decide (1000<m.2.2.1.length)||decide (40<m.2.2.2.2.1.length))||decide (20<m.2.2.2.2.2.1.length)
def zvd(t:zr):Bool:=((decide (300<t.2.2.2.1.length)||decide (300<t.2.2.1.length))||decide (60<t.2.2.2.2.1.length))||decide (60<t.2.2.2.2.2.length)
def zgm(l:List zq)(f:List zr)(o:List (Elt zM)):Bool:=((decide (30<l.length)||decide (60<f.length))||decide (10<o.length))||(l.any zx4||f.any zvd)
theorem zeq{n:Nat}(k:Nat){q:Int}(hq:q=(k:Int)):decide ((n:Int)>q)=decide (k<n):=decide_eq_decide.2 (by omega)
def ziZ:=mkG [] [] 93 [] [([1,0,1],⟨[0,1,21],[]⟩),([0,1,0,1,1],⟨[0,1,7],[]⟩),([1,0,0,1,0,0,1,0,1,1],⟨[0,1,7,52],[]⟩),([0,1,0,1,1,1],⟨[1,8],[]⟩),([1,0,0,1,0,0,1,0,1,1,1],⟨[1,8,92],[]⟩)] []
def zrj(F:Nat)(l:List zq)(f:List zr)(vc1:Bool):=zx ziZ Tryz.f9 F [] [1,0,1] [(0,pL 8 zE l),(1,pL 6 zu f),(21,pB vc1)] []
def zkY(F f1:Nat)(l:List zq)(f:List zr)(vi2:Int):=zH ziZ Tryz.f9 F [] [1,1,0,1,0] f1 [(0,pL 8 zE l),(1,pL 6 zu f),(7,pI vi2)] []
def zzp(F f1:Nat)(l:List zq)(f:List zr)(vi2:Int)(vc3:Bool):=zx ziZ Tryz.f9 F [f1] [1,1,0,1,0,0,1,0,0,1] [(0,pL 8 zE l),(1,pL 6 zu f),(7,pI vi2),(52,pB vc3)] []
def zkX(F f2:Nat)(f:List zr)(vi4:Int):=zH ziZ Tryz.f9 F [] [1,1,1,0,1,0] f2 [(1,pL 6 zu f),(8,pI vi4)] []
def zzn(F f2:Nat)(f:List zr)(vi4:Int)(vc5:Bool):=zx ziZ Tryz.f9 F [f2] [1,1,1,0,1,0,0,1,0,0,1] [(1,pL 6 zu f),(8,pI vi4),(92,pB vc5)] []
def zCh(F:Nat)(l:List zq)(f:List zr)(o:List (Int×List UInt8×Bool)):=zF ziZ Tryz.f9 F [pL 8 zE l,pL 6 zu f,pL 3 (.pair (.int .i64) (.pair .str .bool)) o]
theorem zzq(F l f vc1):zrj F l f vc1=cond vc1 (some (.p (.bool true),[])) (zkY F F l f 0):=by kernel_rfl
theorem znm(F f1 l f vi2):letI A:=(l.getD vi2.toNat ((0:Int),((0:Int),([],((0:Int),([],([],((0:Int),(0:Int))))))))).2.2;letI B:=(decide ((A.1.length:Int)>1000))||(decide ((A.2.2.1.length:Int)>40));letI C:=(l.length:Int);zkY F (f1+1) l f vi2=cond (decide (vi2<C)) (ze (0<=vi2/\vi2<C) (ze ((!(decide ((A.1.length:Int)>1000)))=true->0<=vi2/\vi2<C) (ze ((!B)=true->0<=vi2/\vi2<C) (zzp F f1 l f vi2 (B||(decide ((A.2.2.2.1.length:Int)>20))))))) (zkX F F f 0):=letI A:=(l.getD vi2.toNat ((0:Int),((0:Int),([],((0:Int),([],([],((0:Int),(0:Int))))))))).2.2;letI B:=(decide ((A.1.length:Int)>1000))||(decide ((A.2.2.1.length:Int)>40));letI C:=(!(decide ((A.1.length:Int)>1000)))=true;letI D:=(!B)=true;Eq.trans (by kernel_rfl) (zj (zf (nI C (nI C (zf (nI C (nI C (nI C (nI C (nN (decide ((A.1.length:Int)>1000)) (nI D (nI D (zf (nI D (nI D (nI D (nI D (nN B rfl))))))))))))))))) rfl)
theorem zzo(F f1 l f vi2 vc3):zzp F f1 l f vi2 vc3=cond vc3 (some (.p (.bool true),[])) (ze (zh (vi2+1)) (zkY F f1 l f (vi2+1))):=by kernel_rfl
theorem znl(F f2 f vi4):letI A:=(f.getD vi4.toNat ((0:Int),((0:Int),([],([],([],[])))))).2.2;letI B:=(decide ((A.2.1.length:Int)>300))||(decide ((A.1.length:Int)>300));letI C:=(f.length:Int);letI D:=B||(decide ((A.2.2.1.length:Int)>60));zkX F (f2+1) f vi4=cond (decide (vi4<C)) (ze (0<=vi4/\vi4<C) (ze ((!(decide ((A.2.1.length:Int)>300)))=true->0<=vi4/\vi4<C) (ze ((!B)=true->0<=vi4/\vi4<C) (ze ((!D)=true->0<=vi4/\vi4<C) (zzn F f2 f vi4 (D||(decide ((A.2.2.2.length:Int)>60)))))))) (some (.p (.bool false),[])):=letI A:=(f.getD vi4.toNat ((0:Int),((0:Int),([],([],([],[])))))).2.2;letI B:=(decide ((A.2.1.length:Int)>300))||(decide ((A.1.length:Int)>300));letI C:=(!(B||(decide ((A.2.2.1.length:Int)>60))))=true;letI D:=(!(decide ((A.2.1.length:Int)>300)))=true;letI E:=(!B)=true;Eq.trans (by kernel_rfl) (zj (zf (nI D (nI D (zf (nI D (nI D (nI D (nI D (nN (decide ((A.2.1.length:Int)>300)) (nI E (nI E (zf (nI E (nI E (nI E (nI E (nN B (nI C (nI C (zf (nI C (nI C (nI C (nI C (nN (B||(decide ((A.2.2.1.length:Int)>60))) rfl))))))))))))))))))))))))) rfl)
theorem zzm(F f2 f vi4 vc5):zzn F f2 f vi4 vc5=cond vc5 (some (.p (.bool true),[])) (ze (zh (vi4+1)) (zkX F f2 f (vi4+1))):=by kernel_rfl
theorem zHs(F l f o):zCh F l f o=zrj F l f (((decide ((l.length:Int)>30))||(decide ((f.length:Int)>60)))||(decide ((o.length:Int)>10))):=letI A:=decide ((l.length:Int)>30);letI B:=A||(decide ((f.length:Int)>60));Eq.trans (by kernel_rfl) (nI ((!A)=true) (nI ((!A)=true) (nN A (nI ((!B)=true) (nI ((!B)=true) (nN B rfl))))))
theorem zKh(F l f o r):IsP 9 (zCh F l f o) [.p (.list 8 (.dat zE l)),.p (.list 6 (.dat zu f)),.p (.list 3 (.dat (.pair (.int .i64) (.pair .str .bool)) o))] r:=zG ziZ rfl trivial
theorem zDJ(F:Nat)(f:List zr)(hf:f.length<=60):∀ (r:List zr) (fu i:Nat),f.drop i=r->i+r.length=f.length->r.length<fu->
 zkX F fu f (i:Int)=some (.p (.bool (r.any zvd)),[])
 | [],fu,i,hd,hl,hfu=>by
  obtain⟨fu,rfl⟩:∃ k,fu=k+1:=⟨fu-1,by omega⟩
  have hl:i=f.length:=by simpa using hl
  rw[znl]
  exact zg (decide_eq_false (by omega)) rfl
 | t::r,fu,i,hd,hl,hfu=>by
  obtain⟨fu,rfl⟩:∃ k,fu=k+1:=⟨fu-1,by omega⟩
  obtain⟨hg,hd2,hi⟩:=yF hd ((0:Int),((0:Int),(([]:List UInt8),(([]:List UInt8),(([]:List (Int×Int)),([]:List Int))))))
  rw[List.length_cons]at hl hfu
  have hb:(0:Int)<=(i:Int)/\(i:Int)<(f.length:Int):=⟨by omega,by omega⟩
  rw[znl,Int.toNat_natCast,hg,zeq 300 (q:=300) rfl,zeq 300 (q:=300) rfl,zeq 60 (q:=60) rfl,zeq 60 (q:=60) rfl]
  refine zi (decide_eq_true (by omega)) (zd hb (zd (fun _=>hb) (zd (fun _=>hb) (zd (fun _=>hb) ?_))))
  rw[zzm,List.any_cons]
  show cond (zvd t) _ _=_
  cases hc:zvd t with
  | true=>rfl
  | false=>
   refine zd (by unfold zh;omega) ?_
   rw[show((i:Int)+1)=((i+1:Nat):Int) by omega,Bool.false_or]
   exact zDJ F f hf r fu (i+1) hd2 (by omega) (by omega)
theorem zDI(F:Nat)(l:List zq)(f:List zr)(hl:l.length<=30)(hf:f.length<=60)(hF:60<F):∀ (r:List zq) (fu i:Nat),l.drop i=r->i+r.length=l.length->r.length<fu->
 zkY F fu l f (i:Int)=some (.p (.bool (r.any zx4||f.any zvd)),[])
 | [],fu,i,hd,hi,hfu=>by
  obtain⟨fu,rfl⟩:∃ k,fu=k+1:=⟨fu-1,by omega⟩
  have hi:i=l.length:=by simpa using hi
  rw[znm]
  refine zg (decide_eq_false (by omega)) ?_
  rw[List.any_nil,Bool.false_or]
  exact zDJ F f hf f F 0 rfl (by simp) (by omega)
 | m::r,fu,i,hd,hi,hfu=>by
  obtain⟨fu,rfl⟩:∃ k,fu=k+1:=⟨fu-1,by omega⟩
  obtain⟨hg,hd2,hlt⟩:=yF hd ((0:Int),((0:Int),(([]:List UInt8),((0:Int),(([]:List (List UInt8)),(([]:List (Int×Int)),((0:Int),(0:Int))))))))
  rw[List.length_cons]at hi hfu
  have hb:(0:Int)<=(i:Int)/\(i:Int)<(l.length:Int):=⟨by omega,by omega⟩
  rw[znm,Int.toNat_natCast,hg,zeq 1000 (q:=1000) rfl,zeq 40 (q:=40) rfl,zeq 20 (q:=20) rfl]
  refine zi (decide_eq_true (by omega)) (zd hb (zd (fun _=>hb) (zd (fun _=>hb) ?_)))
  rw[zzo,List.any_cons]
  show cond (zx4 m) _ _=_
  cases hc:zx4 m with
  | true=>rfl
  | false=>
   refine zd (by unfold zh;omega) ?_
   rw[show((i:Int)+1)=((i+1:Nat):Int) by omega,Bool.false_or]
   exact zDI F l f hl hf hF r fu (i+1) hd2 (by omega) (by omega)
theorem zOS(F:Nat)(l:List zq)(f:List zr)(o:List (Elt zM))(hF:60<F)(c:Bool)(hc:((decide (30<l.length)||decide (60<f.length))||decide (10<o.length))=c):zrj F l f c=some (.p (.bool (c||(l.any zx4||f.any zvd))),[]):=by
 rw[zzq]
 cases c with
 | true=>rfl
 | false=>
  simp only[Bool.or_eq_false_iff,decide_eq_false_iff_not]at hc
  refine zg rfl ?_
  rw[Bool.false_or]
  exact zDI F l f (by omega) (by omega) hF l F 0 rfl (by simp) (by omega)
theorem zJM(F:Nat)(l:List zq)(f:List zr)(o:List (Elt zM))(hF:60<F):zCh F l f o=some (.p (.bool (zgm l f o)),[]):=by
 have e:((decide ((l.length:Int)>(30:Int))||decide ((f.length:Int)>(60:Int)))||decide ((o.length:Int)>(10:Int)))=((decide (30<l.length)||decide (60<f.length))||decide (10<o.length)):=by
  rw[zeq 30 (q:=30) rfl,zeq 60 (q:=60) rfl,zeq 10 (q:=10) rfl]
 rw[zHs,e,zgm]
 exact zOS F l f o hF _ rfl
def zoS:List AV->Option (AV×Option Prop)
 | [.p l,.p f,.p o]=>match zA zE l,zA zu f,zA zM o with
  | some l,some f,some o=>some (.p (.bool (zgm l f o)),none)
  | _,_,_=>none
 | _=>none
theorem zI8:zn Tryz.prog 9 zoS:=by
 intro zs r ok he hok
 unfold zoS at he
 split at he
 .rename_i l' f' o'
  split at he
  .rename_i l f o hl hf ho
   cases he
   exact⟨by kernel_rfl,FnP.lq (ys:=[.p (.list 8 (.dat zE l)),.p (.list 6 (.dat zu f)),.p (.list 3 (.dat zM o))]) ⟨Lq.list (a:=zE) hl,Lq.list (a:=zu) hf,Lq.list (a:=zM) ho,trivial⟩
    (zKh 61 l f o _ fun _=>zJM 61 l f o (by decide))⟩
  .cases he
 .cases he
def zee:=mkG [] [] 77 [] [([0,1,0,1,1,1],⟨[0,3,4],[⟨.slot 3,3,.cells []⟩]⟩),([1,0,0,0,1,0,0,1,0,1,1,1],⟨[0,3,4,33],[⟨.slot 3,3,.cells []⟩]⟩),([0,1,1,0,0,1,0,0,1,0,1,1,1],⟨[0,3,4,5],[⟨.slot 3,3,.cells []⟩]⟩),([1,0,0,0,1,1,0,0,1,0,0,1,0,1,1,1],⟨[0,3,4,5,41],[⟨.slot 3,3,.cells []⟩]⟩),([1,0,0,1,0,0,1,1,0,0,1,0,0,1,0,1,1,1],⟨[0,3,4,5,6],[⟨.slot 3,3,.cells []⟩]⟩),([0,1,0,1,1,1,1],⟨[0,3,7],[⟨.slot 3,3,.cells []⟩]⟩)] []
def zeV(F f1:Nat)(f:List zr)(vi1:Int)(vl2:List Int):=zH zee Tryz.f10 F [] [1,1,1,0,1,0] f1 [(0,pL 6 zu f),(3,.arr 3),(4,pI vi1)] [(3,.larr 3 true 1 (.dat (.int .i64) vl2))]
def ztx(F f1:Nat)(f:List zr)(vi1:Int)(vc3:Bool)(vl2:List Int):=zx zee Tryz.f10 F [f1] [1,1,1,0,1,0,0,1,0,0,0,1] [(0,pL 6 zu f),(3,.arr 3),(4,pI vi1),(33,pB vc3)] [(3,.larr 3 true 1 (.dat (.int .i64) vl2))]
def zht(F f1 f2:Nat)(f:List zr)(vi1 vi4:Int)(vl5:List Int):=zH zee Tryz.f10 F [f1] [1,1,1,0,1,0,0,1,0,0,1,1,0] f2 [(0,pL 6 zu f),(3,.arr 3),(4,pI vi1),(5,pI vi4)] [(3,.larr 3 true 1 (.dat (.int .i64) vl5))]
def ztw(F f1 f2:Nat)(f:List zr)(vi1 vi4:Int)(vc6:Bool)(vl5:List Int):=zx zee Tryz.f10 F [f1,f2] [1,1,1,0,1,0,0,1,0,0,1,1,0,0,0,1] [(0,pL 6 zu f),(3,.arr 3),(4,pI vi1),(5,pI vi4),(41,pB vc6)] [(3,.larr 3 true 1 (.dat (.int .i64) vl5))]
def ztv(F f1 f2:Nat)(f:List zr)(vi1 vi4 vi7:Int)(vl5:List Int):=zx zee Tryz.f10 F [f1,f2] [1,1,1,0,1,0,0,1,0,0,1,1,0,0,1,0,0,1] [(0,pL 6 zu f),(3,.arr 3),(4,pI vi1),(5,pI vi4),(6,pI vi7)] [(3,.larr 3 true 1 (.dat (.int .i64) vl5))]
def zeU(F f3:Nat)(f:List zr)(vi8:Int)(vl2:List Int):=zH zee Tryz.f10 F [] [1,1,1,1,0,1,0] f3 [(0,pL 6 zu f),(3,.arr 3),(7,pI vi8)] [(3,.larr 3 true 1 (.dat (.int .i64) vl2))]
def zvB(F:Nat)(f:List zr):=zF zee Tryz.f10 F [pL 6 zu f]
theorem zkh(F f1 f vi1 vl2):letI A:=(f.getD vi1.toNat ((0:Int),((0:Int),([],([],([],[])))))).1;letI B:=(f.length:Int);letI C:=decide (A<1);zeV F (f1+1) f vi1 vl2=cond (decide (vi1<B)) (ze (0<=vi1/\vi1<B) (ze ((!C)=true->0<=vi1/\vi1<B) (ztx F f1 f vi1 (C||(decide (A>16))) vl2))) (zeU F F f 0 vl2):=letI A:=decide ((f.getD vi1.toNat ((0:Int),((0:Int),([],([],([],[])))))).1<1);letI B:=(!A)=true;Eq.trans (by kernel_rfl) (zj (zf (nI B (nI B (zf (nI B (nI B (nI B (nN A rfl)))))))) rfl)
theorem zv9(F f1 f vi1 vc3 vl2):ztx F f1 f vi1 vc3 vl2=cond vc3 (some (.p (.bool false),[])) (zht F f1 f1 f vi1 0 vl2):=by kernel_rfl
theorem zkg(F f1 f2 f vi1 vi4 vl5):zht F f1 (f2+1) f vi1 vi4 vl5=ze (0<=vi1/\vi1<(f.length:Int)) (ztw F f1 f2 f vi1 vi4 (decide (vi4<((f.getD vi1.toNat ((0:Int),((0:Int),([],([],([],[])))))).2.2.2.2.2.length:Int))) vl5):=by kernel_rfl
theorem zkf(F f1 f2 f vi1 vi4 vc6 vl5):letI A:=(f.getD vi1.toNat ((0:Int),((0:Int),([],([],([],[])))))).2.2.2.2.2;ztw F f1 f2 f vi1 vi4 vc6 vl5=cond vc6 (ze (0<=vi1/\vi1<(f.length:Int)) (ze (0<=vi4/\vi4<(A.length:Int)) (ztv F f1 f2 f vi1 vi4 (A.getD vi4.toNat (0:Int)) vl5))) (ze (zh (vi1+1)) (zeV F f1 f (vi1+1) vl5)):=by kernel_rfl
theorem zv8(F f1 f2 f vi1 vi4 vi7 vl5):letI A:=0<=vi7/\vi7<(vl5.length:Int);letI B:=(vl5.getD vi7.toNat (0:Int))+1;letI C:=vi7.toNat<vl5.length;ztv F f1 f2 f vi1 vi4 vi7 vl5=cond ((decide (vi7<0))||(decide (vi7>=vi1))) (some (.p (.bool false),[])) (ze A (ze C (ze (zh B) (ze A (ze C (ze (zh (vi4+1)) (zht F f1 f2 f vi1 (vi4+1) (vl5.set vi7.toNat B)))))))):=letI A:=decide (vi7<0);Eq.trans (by kernel_rfl) (nI ((!A)=true) (nI ((!A)=true) (nN A rfl)))
theorem zke(F f3 f vi8 vl2):letI A:=vi8+1;zeU F (f3+1) f vi8 vl2=ze (zh A) (cond (decide (A<(f.length:Int))) (ze (0<=vi8/\vi8<(vl2.length:Int)) (ze (vi8.toNat<vl2.length) (cond ((vl2.getD vi8.toNat (0:Int)) != 1) (some (.p (.bool false),[])) (ze (zh A) (zeU F f3 f A vl2))))) (some (.p (.bool true),[]))):=by kernel_rfl
theorem zBJ(F f):letI A:=(f.length:Int);zvB F f=cond (decide (A>40)) (some (.p (.bool false),[])) (ze (0<=A/\A<=A/\(8:Int)*A<=281474976710656/\A<=9223372036854775807) (zeV F F f 0 (List.replicate A.toNat (0:Int)))):=by kernel_rfl
theorem zF7(F f r):IsP 10 (zvB F f) [.p (.list 6 (.dat zu f))] r:=zG zee rfl trivial
theorem zwT(F f1:Nat)(f:List zr)(i:Nat)(t:zr)(hi:i<f.length)(h40:f.length<=40)(ht:f.getD i ((0:Int),((0:Int),(([]:List UInt8),(([]:List UInt8),(([]:List (Int×Int)),([]:List Int))))))=t)(hk:t.2.2.2.2.2.length<=1000000):∀ (r:List Int) (f2 j:Nat) (acc:List Int),t.2.2.2.2.2.drop j=r->j+r.length=t.2.2.2.2.2.length->r.length<f2->i<=acc.length->(∀ x ∈ acc,0<=x/\x<=1000000*1000000+j)->
 zht F f1 f2 f (i:Int) (j:Int) acc=match zcA (i:Int) r acc with
  | none=>some (.p (.bool false),[])
  | some acc'=>zeV F f1 f ((i+1:Nat):Int) acc'
 | [],f2,j,acc,hd,hl,hf,ha,hb=>by
  obtain⟨f2,rfl⟩:∃ k,f2=k+1:=⟨f2-1,by omega⟩
  have hl:j=t.2.2.2.2.2.length:=by simpa using hl
  rw[zkg,Int.toNat_natCast,ht]
  refine zd ⟨by omega,by omega⟩ ?_
  rw[zkf]
  refine zg (decide_eq_false (by omega)) (zd (by unfold zh;omega) ?_)
  rw[zcA,show((i:Int)+1)=((i+1:Nat):Int) by omega]
 | x::r,f2,j,acc,hd,hl,hf,ha,hb=>by
  obtain⟨f2,rfl⟩:∃ k,f2=k+1:=⟨f2-1,by omega⟩
  obtain⟨hg,hd2,hj⟩:=yF hd (0:Int)
  rw[List.length_cons]at hl hf
  rw[zkg,Int.toNat_natCast,ht]
  refine zd ⟨by omega,by omega⟩ ?_
  rw[zkf,Int.toNat_natCast,ht,Int.toNat_natCast,hg]
  refine zi (decide_eq_true (by omega)) (zd ⟨by omega,by omega⟩ (zd ⟨by omega,by omega⟩ ?_))
  rw[zv8,zcA]
  by_cases hc:x<0\/x>=(i:Int)
  .rw [if_pos hc]
   exact zi (by rcases hc with h|h <;> simp[h]) rfl
  .rw [if_neg hc]
   have hx:0<=x/\x<(i:Int):=by omega
   have hxl:x.toNat<acc.length:=by omega
   have hv:0<=acc.getD x.toNat 0/\acc.getD x.toNat 0<=1000000*1000000+(j:Int):=hb _ (yi hxl 0)
   refine zg (by rw[Bool.or_eq_false_iff,decide_eq_false_iff_not,decide_eq_false_iff_not];omega) (zd ⟨by omega,by omega⟩ (zd hxl (zd (by unfold zh;omega) (zd ⟨by omega,by omega⟩ (zd hxl (zd (by unfold zh;omega) ?_))))))
   rw[show((j:Int)+1)=((j+1:Nat):Int) by omega]
   refine zwT F f1 f i t hi h40 ht hk r f2 (j+1) _ hd2 (by omega) (by omega) (by rw[List.length_set];exact ha) fun y hy=>?_
   rcases List.mem_or_eq_of_mem_set hy with hy|hy
   .have:=hb y hy;omega
   .rw [hy];omega
theorem zwU(F:Nat)(f:List zr)(h40:f.length<=40)(hks:∀ t ∈ f,t.2.2.2.2.2.length<=1000000):∀ (r:List zr) (f1 i:Nat) (acc:List Int),f.drop i=r->r.length+1000001<f1->i+r.length=f.length->acc.length=f.length->(∀ x ∈ acc,0<=x/\x<=1000000*i)->
 zeV F f1 f (i:Int) acc=match goR i r acc with
  | none=>some (.p (.bool false),[])
  | some acc'=>zeU F F f (0:Int) acc'
 | [],f1,i,acc,hd,hf,hi,ha,hb=>by
  obtain⟨f1,rfl⟩:∃ k,f1=k+1:=⟨f1-1,by omega⟩
  have hi:i=f.length:=by simpa using hi
  rw[zkh]
  exact zg (decide_eq_false (by omega)) rfl
 | t::r,f1,i,acc,hd,hf,hi,ha,hb=>by
  obtain⟨f1,rfl⟩:∃ k,f1=k+1:=⟨f1-1,by omega⟩
  obtain⟨h1,h2,h3⟩:=yF hd ((0:Int),((0:Int),(([]:List UInt8),(([]:List UInt8),(([]:List (Int×Int)),([]:List Int))))))
  have ht:t ∈ f:=by rw[<-h1];exact yi h3 _
  rw[List.length_cons]at hf hi
  have hbd:(0:Int)<=(i:Int)/\(i:Int)<(f.length:Int):=⟨by omega,by omega⟩
  rw[zkh,Int.toNat_natCast,h1]
  refine zi (decide_eq_true (by omega)) (zd hbd (zd (fun _=>hbd) ?_))
  rw[zv9,goR]
  by_cases hc:t.1<1\/t.1>16
  .rw [if_pos hc]
   exact zi (by rcases hc with h|h <;> simp[h]) rfl
  .rw [if_neg hc]
   refine zg (by rw[Bool.or_eq_false_iff,decide_eq_false_iff_not,decide_eq_false_iff_not];omega) ?_
   have hk:=hks t ht
   rw[show(0:Int)=((0:Nat):Int) from rfl,zwT F f1 f i t h3 h40 h1 hk t.2.2.2.2.2 f1 0 acc rfl (by omega) (by omega) (by omega) (fun x hx=>by have:=hb x hx;omega)]
   cases hkr:zcA (i:Int) t.2.2.2.2.2 acc with
   | none=>rfl
   | some acc'=>
    dsimp only
    refine zwU F f h40 hks r f1 (i+1) acc' h2 (by omega) (by omega) (by rw[zhb _ _ _ _ hkr];exact ha) fun x hx=>?_
    have:=zpx (i:Int) (1000000*i) _ _ _ hkr hb (by omega) x hx
    omega
theorem zwS(F:Nat)(f:List zr)(h40:f.length<=40)(acc:List Int)(ha:acc.length=f.length):∀ (m f3 i:Nat),i+m=f.length-1->m<f3->
 zeU F f3 f (i:Int) acc=some (.p (.bool (((acc.take (f.length-1)).drop i).all fun x=>x==1)),[])
 | 0,f3,i,hi,hf=>by
  obtain⟨f3,rfl⟩:∃ k,f3=k+1:=⟨f3-1,by omega⟩
  rw[zke]
  refine zd (by unfold zh;omega) (zg (decide_eq_false (by omega)) ?_)
  rw[List.drop_eq_nil_of_le (by rw[List.length_take];omega)];rfl
 | m+1,f3,i,hi,hf=>by
  obtain⟨f3,rfl⟩:∃ k,f3=k+1:=⟨f3-1,by omega⟩
  have hlt:i<(acc.take (f.length-1)).length:=by rw[List.length_take];omega
  have hd:(acc.take (f.length-1)).drop i=acc.getD i 0::(acc.take (f.length-1)).drop (i+1):=by
   rw[List.drop_eq_getElem_cons hlt,List.getElem_take,List.getD_eq_getElem?_getD,List.getElem?_eq_getElem (by omega)];rfl
  rw[zke,Int.toNat_natCast,hd,List.all_cons]
  refine zd (by unfold zh;omega) (zi (decide_eq_true (by omega)) (zd ⟨by omega,by omega⟩ (zd (by omega) ?_)))
  cases hc:acc.getD i 0==(1:Int)with
  | false=>exact zi (by rw[bne,hc];rfl) rfl
  | true=>
   refine zg (by rw[bne,hc];rfl) (zd (by unfold zh;omega) ?_)
   rw[show(i:Int)+1=((i+1:Nat):Int) by omega,zwS F f h40 acc ha m f3 (i+1) (by omega) (by omega),Bool.true_and]
theorem zE2(f:List zr)(hk:zbI f):zvB (f.length+1000003) f=some (.p (.bool (zaq f)),[]):=by
 rw[zBJ,zaq]
 by_cases h40:f.length>40
 .rw [if_pos h40];exact zi (decide_eq_true (by omega)) rfl
 .rw [if_neg h40]
  refine zg (decide_eq_false (by omega)) (zd ⟨by omega,by omega,by omega,by omega⟩ ?_)
  rw[Int.toNat_natCast,show(0:Int)=((0:Nat):Int) from rfl,zwU _ f (by omega) hk.2 f _ 0 _ rfl (by omega) (by omega) (by simp) (fun x hx=>by rw[(List.mem_replicate.1 hx).2];omega)]
  cases hg:goR 0 f (List.replicate f.length ((0:Nat):Int))with
  | none=>rfl
  | some acc=>
   dsimp only
   have hl:=znU _ _ _ _ hg
   rw[List.length_replicate]at hl
   exact zwS _ f (by omega) acc hl (f.length-1) _ 0 (by omega) (by omega)
def zlf:List AV->Option (AV×Option Prop)
 | [.p f]=>match zA zu f with
  | some f=>some (.p (.bool (zaq f)),some (zbI f))
  | none=>none
 | _=>none
theorem zFq:zn Tryz.prog 10 zlf:=by
 intro zs r ok he hok
 unfold zlf at he
 split at he
 .rename_i f'
  split at he
  .rename_i f hf
   cases he
   exact⟨by kernel_rfl,FnP.lq (ys:=[.p (.list 6 (.dat zu f))]) ⟨Lq.list (a:=zu) hf,trivial⟩ (zF7 _ f _ fun _=>zE2 f hok)⟩
  .cases he
 .cases he
def zbL(f:List zr)(m:zq):Bool:=zaq f&&(((f.length:Int)==(0:Int))||hGF 41 (zbX m) f ((f.length:Int)-(1:Int)))
abbrev zAK(f:List zr)(m:zq):Prop:=zbI f/\m.2.2.1.length<=1000000/\(zaq f=true->f.length≠0->ziM 41 (zbX m) f ((f.length:Int)-(1:Int)))
end Go.Proofs.YtampckbjinodgaaGreatDoor
namespace Go.Proofs.YtampckbjinodgaaGreatDoor
open Go Go.Am
end Go.Proofs.YtampckbjinodgaaGreatDoor
namespace Go.Proofs.YtampckbjinodgaaGreatDoor
open Go Go.RowKit
theorem zo6(w:World):(callFunc 193 #[]).run Tryz.prog w=.ok (.value (.tuple #[])) w:=run_call_mark0 Tryz.func193 (by kernel_rfl) (by kernel_rfl) (by kernel_rfl) .disable (by kernel_rfl) w
theorem zsy(w:World):(callFunc 195 #[]).run Tryz.prog w=.ok (.value (.tuple #[])) w:=run_call_mark0 Tryz.func195 (by kernel_rfl) (by kernel_rfl) (by kernel_rfl) .enable (by kernel_rfl) w
theorem zz7(a:Addr)(w:World):(callFunc 196 #[.pointer (some a)]).run Tryz.prog w=.ok (.value (.tuple #[])) w:=run_call_marked Tryz.func196 (by kernel_rfl) (by kernel_rfl) (by kernel_rfl) .acquire (by kernel_rfl) a w
theorem zny(a:Addr)(w:World):(callFunc 198 #[.pointer (some a)]).run Tryz.prog w=.ok (.value (.tuple #[])) w:=run_call_marked Tryz.func198 (by kernel_rfl) (by kernel_rfl) (by kernel_rfl) .releaseMerge (by kernel_rfl) a w
set_option maxRecDepth 100000 in
set_option maxHeartbeats 1600000 in
theorem zIk(a:Addr)(x:Value)(u:FrameMode)(w:World)(hc:w.cell? a=some x)(hz:w.frozen? a=false):
 CallsD Tryz.prog 166 #[.pointer (some a),.bool true] u w fun e u' w'=>u'=u/\(e=.returned (.tuple #[])/\w'=w.drew.setCell a (.int .u32 1)):=by
 have hc':w.drew.cell? a=some x:=by go_simp
 have hz':w.drew.frozen? a=false:=by go_simp
 have hst:=run_call_store (P:=Tryz.prog) Tryz.func183 (by kernel_rfl) (by kernel_rfl) (by kernel_rfl) (by kernel_rfl) (k:=.u32) (y:=1) hc' hz'
 go_enter_d Tryz.func166,Tryz.ntmps166
 go_wp2
 go_region_calls
 all_goals (go_end0;exact⟨rfl,rfl⟩)
set_option maxRecDepth 100000 in
set_option maxHeartbeats 1600000 in
theorem zE4(a:Addr)(u:FrameMode)(w:World)(hc:w.cell? a=some (.int .i32 1))(hz:w.frozen? a=false):
 CallsD Tryz.prog 165 #[.pointer (some a)] u w fun e u' w'=>u'=u/\(e=.returned (.tuple #[])/\w'=w.setCell a (.int .i32 0)):=by
 have hd:=zo6
 have he:=zsy
 have hr:=zny
 have hadd:=run_call_add (P:=Tryz.prog) Tryz.func199 (by kernel_rfl) (by kernel_rfl) (by kernel_rfl) .i32 (by kernel_rfl) (y:=-1) (s:=0) hc hz (by simp[go_sem];rfl)
 have hcv:=run_convert_to_unsafe (P:=Tryz.prog) (src:=241) (dst:=189) Tryz.underlying241 Tryz.underlying189 (by kernel_rfl) hc
 go_enter_d Tryz.func165,Tryz.ntmps165
 go_wp2
 go_end0
 go_wp2
 go_end0
 exact⟨rfl,rfl⟩
set_option maxRecDepth 100000 in
set_option maxHeartbeats 1600000 in
theorem zNK(a:Addr)(w:World)(hc:w.cell? a=some (.int .i32 0))(hz:w.frozen? a=false):
 Calls Tryz.prog 164 #[.pointer (some a)] w fun e w'=>e=.returned (.tuple #[])/\w'=w.setCell a (.int .i32 1):=by
 have hd:=zo6
 have he:=zsy
 have ha:=zz7
 have hcas:=run_call_cas_hit (P:=Tryz.prog) Tryz.func194 (by kernel_rfl) (by kernel_rfl) (by kernel_rfl) .i32 (by kernel_rfl) (y:=1) hc hz
 have hc':(w.setCell a (.int .i32 1)).cell? a=some (.int .i32 1):=World.cell?_setCell_same w a _ hc
 have hcv:=run_convert_to_unsafe (P:=Tryz.prog) (src:=241) (dst:=189) Tryz.underlying241 Tryz.underlying189 (by kernel_rfl) hc'
 go_enter Tryz.func164,Tryz.ntmps164
 go_wp2
 first|go_end0|(simp only[Exit.inBlock,Exit.then];refine bodyPost_ret (results_none rfl _ _ _) rfl ?_)|refine bodyPost_ret (results_none rfl _ _ _) rfl ?_
 go_wp2
 go_end0
 exact⟨rfl,rfl⟩
end Go.Proofs.YtampckbjinodgaaGreatDoor
namespace Go.Proofs.YtampckbjinodgaaGreatDoor
open Go Go.Am
end Go.Proofs.YtampckbjinodgaaGreatDoor
namespace Go.Proofs.YtampckbjinodgaaGreatDoor
open Go Go.RowKit
def rpA(v:Value):Array Value:=(Tryz.zeroCells216.toList.set 256 v).toArray
theorem zNJ(w:World):(storeCells ⟨w.heap.size+1,0,none⟩ (Tryz.zeroCells216.toList.set 256 (.slice (some ⟨w.heap.size,0,none⟩) 0 2))).run Tryz.prog ((w.alloc (.cells #[.string ⟨#[]⟩,.string ⟨#[]⟩] 9)).alloc (.cells Tryz.zeroCells216 216))=
 .ok () ((w.alloc (.cells #[.string ⟨#[]⟩,.string ⟨#[]⟩] 9)).alloc (.cells (rpA (.slice (some ⟨w.heap.size,0,none⟩) 0 2)) 216)):=by
 have h:=run_storeCells_new (P:=Tryz.prog) (w.alloc (.cells #[.string ⟨#[]⟩,.string ⟨#[]⟩] 9)) 216 Tryz.zeroCells216 (rpA (.slice (some ⟨w.heap.size,0,none⟩) 0 2)) (by kernel_rfl) (by kernel_rfl) (by kernel_rfl)
 rw[World.size_alloc]at h
 exact h
def zvl(w wx:World)(n:Nat):Prop:=Below w.heap.size w wx/\w.heap.size+2<=wx.heap.size/\
 ∃ (arr:Array Value) (c0 c1:Value),wx.heap[w.heap.size+1]?=some (.cells arr 216 (0,0))/\arr.size=257/\wx.heap[w.heap.size]?=some (.cells #[c0,c1] 9 (0,0))/\
  arr[256]?=some (.slice (some ⟨w.heap.size,0,none⟩) n 2)/\(∀ j,j<256->if(j=9/\1<=n)\/(j=32/\2<=n) then ∃ a c,arr[j]?=some (.slice (some a) 0 c) else arr[j]?=some (.slice none 0 0))/\
  ((1<=n->c0=.string ⟨#[9]⟩)/\(2<=n->c1=.string ⟨#[32]⟩))
theorem yD{w w':World}(hB:Below w.heap.size w w'){a:Addr}{v:Value}(h:w.cell? a=some v):w'.cell? a=some v:=by
 rw[World.cell?_of_block (w:=w) (hB.block _ (World.block_lt_of_cell? w a h))];exact h
theorem zRy(w:World):zvl w ((w.alloc (.cells #[.string ⟨#[]⟩,.string ⟨#[]⟩] 9)).alloc (.cells (rpA (.slice (some ⟨w.heap.size,0,none⟩) 0 2)) 216)) 0:=by
 refine⟨((Below.refl _ _).alloc (Nat.le_refl _) _).alloc (by simp) _,by simp,rpA (.slice (some ⟨w.heap.size,0,none⟩) 0 2),.string ⟨#[]⟩,.string ⟨#[]⟩,?_,by kernel_rfl,?_,by kernel_rfl,fun j hj=>?_,fun h=>absurd h (by decide),fun h=>absurd h (by decide)⟩
 .have:=heap_alloc_new (w.alloc (.cells #[.string ⟨#[]⟩,.string ⟨#[]⟩] 9)) (.cells (rpA (.slice (some ⟨w.heap.size,0,none⟩) 0 2)) 216)
  rw[World.size_alloc]at this
  exact this
 .rw [Below.heap_alloc _ _ _ (by simp)]
  exact heap_alloc_new w _
 .rw [if_neg (by omega)]
  have h:∀ v:Value,(List.range 256).all (fun j=>match (rpA v)[j]? with|some (.slice none 0 0)=>true|_=>false)=true:=fun v=>by kernel_rfl
  have h2:=List.all_eq_true.1 (h (.slice (some ⟨w.heap.size,0,none⟩) 0 2)) j (List.mem_range.2 hj)
  split at h2
  .rename_i e;exact e
  .cases h2
theorem zIm(c:UInt8)(w:World):(convert 34 9 (.slice (some ⟨w.heap.size,0,none⟩) 1 1)).run Tryz.prog (w.alloc (.cells #[.int .u8 c.toNat] 5))=.ok (.string ⟨#[c]⟩) (w.alloc (.cells #[.int .u8 c.toNat] 5)):=by
 rw[Go.Am.run_convert_bytes (by kernel_rfl) _ ⟨_,_,_,rfl⟩]
 refine Go.Am.run_bytesToString w.heap.size 0 1 [c] fun i d hd=>?_
 cases i with
 | zero=>cases hd;exact(cell_of_row _ w.heap.size 0 #[.int .u8 c.toNat] _ (0,0) (heap_alloc_new w _)).trans rfl
 | succ i=>simp at hd
theorem zDf{ops:Array Oper}{rest:List Oper}{o:Oper}{a:Act}{w w':World}{Q:Exit->Act->World->Prop}{v vs vx:Value}{s x:Operand}{t:TypeId}(hgd:o.guard=none)
 (ho:o.op=.call { callee:=.builtin .append,args:=#[s,x],argTypes:=#[t,t] }) (hs:a.eval s=vs) (hx:a.eval x=vx) (hr:(Builtin.append_ #[t,t] o.type #[vs,vx]).run Tryz.prog w=.ok v w')
 (h:wpList Tryz.prog ops Q rest (a.put o.dst v) w'):wpList Tryz.prog ops Q (o::rest) a w:=
 wpList_plain hgd fun K hK=>by
  unfold Oper.wp execOp
  simp only[ho,resolve,invoke,builtin,Sem.run_bind,Sem.run_pure,Result.andThen_ok,List.map_toArray,List.map_cons,List.map_nil,hs,hx,hr]
  exact hK _ _ h
theorem zag{w:World}{b:Nat}{cur:Array Value}{ty:TypeId}(h:w.heap[b]?=some (.cells cur ty (0,0)))(i:Nat):w.cell? ⟨b,i,none⟩=cur[i]?:=cell_of_row w b i cur ty (0,0) h
theorem zcg{w:World}{b:Nat}{cur:Array Value}{ty:TypeId}(h:w.heap[b]?=some (.cells cur ty (0,0)))(i:Nat):w.frozen? ⟨b,i,none⟩=false:=by
 unfold World.frozen?
 rw[h]
 simp
theorem rp_A{w wr:World}{arr:Array Value}{c0 c1:Value}(n:Nat)(hn:n<2)(o:UInt8)(hB:Below w.heap.size w wr)(hsz:w.heap.size+2<=wr.heap.size)
 (q1:wr.heap[w.heap.size+1]?=some (.cells arr 216 (0,0))) (q3:wr.heap[w.heap.size]?=some (.cells #[c0,c1] 9 (0,0))):
 ∃ (Wa:World) (d0 d1:Value),(Builtin.append_ #[23,23] 23 #[.slice (some ⟨w.heap.size,0,none⟩) n 2,.slice (some ⟨wr.heap.size+1,0,none⟩) 1 1]).run Tryz.prog
  ((wr.alloc (.cells #[.int .u8 o.toNat] 5)).alloc (.cells #[.string ⟨#[o]⟩] 9))=.ok (.slice (some ⟨w.heap.size,0,none⟩) (n+1) 2) Wa/\Below w.heap.size w Wa/\w.heap.size+2<=Wa.heap.size/\
  Wa.heap[w.heap.size+1]?=some (.cells arr 216 (0,0))/\Wa.heap[w.heap.size]?=some (.cells #[d0,d1] 9 (0,0))/\(n=0->d0=.string ⟨#[o]⟩)/\(n=1->d0=c0/\d1=.string ⟨#[o]⟩):=by
 obtain⟨W1,hW⟩:∃ W1,W1=(wr.alloc (.cells #[.int .u8 o.toNat] 5)).alloc (.cells #[.string ⟨#[o]⟩] 9):=⟨_,rfl⟩
 rw[<-hW]
 have hz:W1.heap.size=wr.heap.size+2:=by rw[hW];simp
 have k3:W1.heap[w.heap.size]?=some (.cells #[c0,c1] 9 (0,0)):=by
  rw[hW,Below.heap_alloc _ _ _ (by simp;omega),Below.heap_alloc _ _ _ (by omega)];exact q3
 have k1:W1.heap[w.heap.size+1]?=some (.cells arr 216 (0,0)):=by
  rw[hW,Below.heap_alloc _ _ _ (by simp;omega),Below.heap_alloc _ _ _ (by omega)];exact q1
 have kn:W1.heap[wr.heap.size+1]?=some (.cells #[.string ⟨#[o]⟩] 9 (0,0)):=by
  have:=heap_alloc_new (wr.alloc (.cells #[.int .u8 o.toNat] 5)) (.cells #[.string ⟨#[o]⟩] 9)
  rw[World.size_alloc]at this
  rw[hW];exact this
 have hsrc:Src Tryz.prog 1 23 (.slice (some ⟨wr.heap.size+1,0,none⟩) 1 1) 1 [.string ⟨#[o]⟩] W1:=by
  refine Src.ofSlice W1 Tryz.underlying23 ⟨wr.heap.size+1,0,none⟩ 1 1 [.string ⟨#[o]⟩] rfl (fun j u hu=>?_) (fun u hu=>by rw[List.mem_singleton.1 hu];rfl)
  cases j with
  | zero=>cases hu;exact(zag kn 0).trans rfl
  | succ j=>simp at hu
 have happ:=run_append_room_src (P:=Tryz.prog) W1 23 23 23 9 Tryz.t9 Tryz.underlying23 (by kernel_rfl) w.heap.size 0 n 2 _ 1 [.string ⟨#[o]⟩] hsrc (by omega)
  (fun j hj=>by
   obtain rfl:j=0:=by simpa using hj
   rw[zag k3]
   have:n=0\/n=1:=by omega
   rcases this with rfl|rfl <;> rfl) (fun j hj=>zcg k3 _)
 have e:W1.setCells w.heap.size (0+n*1) [.string ⟨#[o]⟩]=W1.setCell ⟨w.heap.size,n,none⟩ (.string ⟨#[o]⟩):=by
  rw[Nat.zero_add,Nat.mul_one];rfl
 have hWB:Below w.heap.size w W1:=by rw[hW];exact(hB.alloc (by omega) _).alloc (by simp;omega) _
 have er:=setCell_eq_setRow W1 w.heap.size n #[c0,c1] 9 (0,0) (.string ⟨#[o]⟩) k3
 refine⟨W1.setCell ⟨w.heap.size,n,none⟩ (.string ⟨#[o]⟩),(#[c0,c1].setIfInBounds n (.string ⟨#[o]⟩)).getD 0 undef,(#[c0,c1].setIfInBounds n (.string ⟨#[o]⟩)).getD 1 undef,happ.trans (congrArg _ e),hWB.setCell (Nat.le_refl _) _,?_,?_,?_,?_,?_⟩
 .rw [er];simp[World.setRow];omega
 .rw [Below.heap_setCell _ _ _ _ (by simp)];exact k1
 .rw [er,setRow_heap W1 _ _ _ _ _ k3]
  have:n=0\/n=1:=by omega
  rcases this with rfl|rfl <;> rfl
 .rintro rfl;rfl
 .rintro rfl;exact⟨rfl,rfl⟩
theorem rp_B{w Wa:World}{arr:Array Value}{d0 d1:Value}(v:Value)(hB:Below w.heap.size w Wa)(hsz:w.heap.size+2<=Wa.heap.size)(_ha:arr.size=257)
 (q1:Wa.heap[w.heap.size+1]?=some (.cells arr 216 (0,0))) (q3:Wa.heap[w.heap.size]?=some (.cells #[d0,d1] 9 (0,0))):
 ∃ (Wb:World) (p:Addr) (c:Nat),(convert 9 34 (.string ⟨#[]⟩)).run Tryz.prog (Wa.setCell ⟨w.heap.size+1,256,none⟩ v)=.ok (.slice (some p) 0 c) Wb/\Below w.heap.size w Wb/\w.heap.size+2<=Wb.heap.size/\
  Wb.heap[w.heap.size+1]?=some (.cells (arr.setIfInBounds 256 v) 216 (0,0))/\Wb.heap[w.heap.size]?=some (.cells #[d0,d1] 9 (0,0)):=by
 have er:=setCell_eq_setRow Wa (w.heap.size+1) 256 arr 216 (0,0) v q1
 have hz:(Wa.setCell ⟨w.heap.size+1,256,none⟩ v).heap.size=Wa.heap.size:=by rw[er];simp[World.setRow]
 have hb:=hB.setCell (p:=⟨w.heap.size+1,256,none⟩) (by simp) v
 refine⟨_,_,_,run_bytes_of_string (P:=Tryz.prog) (Wa.setCell ⟨w.heap.size+1,256,none⟩ v) 9 34 5 ⟨#[]⟩ Tryz.underlying9 Tryz.underlying34 Tryz.underlying5,hb.drew.alloc (by show _<=(Wa.setCell _ v).heap.size;rw[hz];omega) _,?_,?_,?_⟩
 .rw [World.size_alloc];show _<=(Wa.setCell _ v).heap.size+1;rw[hz];omega
 .rw [Below.heap_alloc _ _ _ (by show _<(Wa.setCell _ v).heap.size;rw[hz];omega)]
  show(Wa.setCell _ v).heap[w.heap.size+1]?=_
  rw[er,setRow_heap Wa _ _ _ _ _ q1]
 .rw [Below.heap_alloc _ _ _ (by show _<(Wa.setCell _ v).heap.size;rw[hz];omega)]
  show(Wa.setCell _ v).heap[w.heap.size]?=_
  rw[Below.heap_setCell _ _ _ _ (by simp)];exact q3
theorem rp_C{w Wb:World}{arr:Array Value}{d0 d1:Value}(n o:Nat)(p:Addr)(c:Nat)(ho:(n=0/\o=9)\/(n=1/\o=32))(hB:Below w.heap.size w Wb)(hsz:w.heap.size+2<=Wb.heap.size)(ha:arr.size=257)
 (q1:Wb.heap[w.heap.size+1]?=some (.cells (arr.setIfInBounds 256 (.slice (some ⟨w.heap.size,0,none⟩) (n+1) 2)) 216 (0,0))) (q3:Wb.heap[w.heap.size]?=some (.cells #[d0,d1] 9 (0,0)))
 (q5:∀ j,j<256->if(j=9/\1<=n)\/(j=32/\2<=n) then ∃ a c,arr[j]?=some (.slice (some a) 0 c) else arr[j]?=some (.slice none 0 0)) (h0:d0=.string ⟨#[9]⟩) (h1:n=1->d1=.string ⟨#[32]⟩):
 zvl w (Wb.setCell ⟨w.heap.size+1,o,none⟩ (.slice (some p) 0 c)) (n+1):=by
 have er:=setCell_eq_setRow Wb (w.heap.size+1) o _ 216 (0,0) (.slice (some p) 0 c) q1
 have ho2:o<256:=by omega
 refine⟨hB.setCell (by simp) _,?_,(arr.setIfInBounds 256 (.slice (some ⟨w.heap.size,0,none⟩) (n+1) 2)).setIfInBounds o (.slice (some p) 0 c),d0,d1,?_,by simp[ha],?_,?_,fun j hj=>?_,fun _=>h0,fun h=>h1 (by omega)⟩
 .rw [er];simp[World.setRow];omega
 .rw [er,setRow_heap Wb _ _ _ _ _ q1]
 .rw [Below.heap_setCell _ _ _ _ (by simp)];exact q3
 .rw [Array.getElem?_setIfInBounds,if_neg (by omega),Array.getElem?_setIfInBounds,if_pos rfl,if_pos (by omega)]
 .have hq:=q5 j hj
  by_cases e:o=j
  .subst e
   have hc:(o=9/\1<=n+1)\/(o=32/\2<=n+1):=by omega
   rw[if_pos hc]
   exact⟨p,c,by rw[Array.getElem?_setIfInBounds,if_pos rfl,if_pos (by simp[ha];omega)]⟩
  .have ev:((arr.setIfInBounds 256 (.slice (some ⟨w.heap.size,0,none⟩) (n+1) 2)).setIfInBounds o (.slice (some p) 0 c))[j]?=arr[j]?:=by
    rw[Array.getElem?_setIfInBounds,if_neg e,Array.getElem?_setIfInBounds,if_neg (by omega)]
   by_cases h:(j=9/\1<=n)\/(j=32/\2<=n)
   .rw [if_pos h]at hq
    obtain⟨a,c',h'⟩:=hq
    have hc:(j=9/\1<=n+1)\/(j=32/\2<=n+1):=by omega
    rw[if_pos hc];exact⟨a,c',ev.trans h'⟩
   .rw [if_neg h]at hq
    have hc:¬ ((j=9/\1<=n+1)\/(j=32/\2<=n+1)):=by omega
    rw[if_neg hc];exact ev.trans hq
set_option maxRecDepth 100000 in
set_option maxHeartbeats 8000000 in
theorem zIl(b R off cap:Nat)(w:World)(h4:w.cell? ⟨b,4,none⟩=some (.slice (some ⟨R,off,none⟩) 4 cap))
 (r0:w.cell? ⟨R,off,none⟩=some (.string ⟨#[32]⟩)) (r1:w.cell? ⟨R,off+1,none⟩=some (.string ⟨#[]⟩)) (r2:w.cell? ⟨R,off+2,none⟩=some (.string ⟨#[9]⟩)) (r3:w.cell? ⟨R,off+3,none⟩=some (.string ⟨#[]⟩)):
 Calls Tryz.prog 137 #[.pointer (some ⟨b,0,none⟩)] w fun e w'=>e=.returned (.iface 217 (.pointer (some ⟨w.heap.size+1,0,none⟩)))/\zvl w w' 2:=by
 have hmk:∀ w:World,(Instr.makeSlice 23 (.int .i64 0) (.int .i64 2)).run Tryz.prog w=.ok (.slice (some ⟨w.heap.size,0,none⟩) 0 2) (w.alloc (.cells #[.string ⟨#[]⟩,.string ⟨#[]⟩] 9)):=fun w=>(run_make w 23 9 _ _ Tryz.underlying23 rfl rfl .i64 .i64 0 2 (by decide) (by decide) (by decide) (by decide)).trans (by kernel_rfl)
 have hst:=fun w:World=>zNJ w
 have e9:((⟨#[9]⟩:ByteArray)[0]'(by decide)).toNat=9:=rfl
 have e32:((⟨#[32]⟩:ByteArray)[0]'(by decide)).toNat=32:=rfl
 have hnil:∀ w:World,(binOp .eql 34 (.slice none 0 0) (.slice none 0 0)).run Tryz.prog w=.ok (.bool true) w:=fun w=>rfl
 go_enter Tryz.func137,Tryz.ntmps137
 go_wp2
 go_loopg [4,5] 2 (fun g s4 s5 wx=>w=wx/\((g=2/\s4=.bool true/\s5=.int .i64 0)\/(g=1/\s4=.bool false/\s5=.int .i64 2)\/(g=0/\s4=.bool false/\s5=.int .i64 4)))
 case atStart=>exact⟨rfl,.inl ⟨rfl,rfl,rfl⟩⟩
 case round=>
  obtain⟨rfl,hrel⟩:=hrel
  rcases hrel with⟨rfl,rfl,rfl⟩|⟨rfl,rfl,rfl⟩|⟨rfl,rfl,rfl⟩
  .go_wp2
   go_roundg 1
   case measure=>omega
   case rel=>exact⟨rfl,.inr (.inl ⟨rfl,rfl,rfl⟩)⟩
  .go_wp2
   go_roundg 0
   case measure=>omega
   case rel=>exact⟨rfl,.inr (.inr ⟨rfl,rfl,rfl⟩)⟩
  .go_wp2
   go_loopg [12,13,14] 2 (fun g s12 s13 s14 wx=>∃ n,zvl w wx n/\((g=2/\n=0/\s12=.int .i64 2)\/(g=1/\n=1/\s12=.int .i64 0)\/(g=0/\n=2/\s12=.int .i64 (-2))))
   case atStart=>
    refine⟨0,?_,.inl ⟨rfl,rfl,rfl⟩⟩
    exact zRy w
   case round=>
    obtain⟨n,hst,hrel⟩:=hrel
    rcases hrel with⟨rfl,rfl,rfl⟩|⟨rfl,rfl,rfl⟩|⟨rfl,rfl,rfl⟩
    .obtain ⟨hB,hsz,arr,c0,c1,q1,q2,q3,q4,q5,q6,q7⟩:=hst
     have g0:=yD hB r0
     have g1:=yD hB r1
     have g2:=yD hB r2
     have g3:=yD hB r3
     have zo:wr.cell? ⟨w.heap.size+1,9,none⟩=some (.slice none 0 0):=by
      have h:=q5 9 (by decide)
      rw[if_neg (by decide)]at h
      rw[zag q1];exact h
     have z256:wr.cell? ⟨w.heap.size+1,256,none⟩=some (.slice (some ⟨w.heap.size,0,none⟩) 0 2):=by rw[zag q1];exact q4
     have hbts:(convert 34 9 (.slice (some ⟨wr.heap.size,0,none⟩) 1 1)).run Tryz.prog (wr.alloc (.cells #[.int .u8 9] 5))=.ok (.string ⟨#[9]⟩) (wr.alloc (.cells #[.int .u8 9] 5)):=zIm 9 wr
     obtain⟨Wa,d0,d1,happ0,hB1,hsz1,k1,k3,k4,k5⟩:=rp_A 0 (by decide) 9 hB hsz q1 q3
     have happ:(Builtin.append_ #[23,23] 23 #[.slice (some ⟨w.heap.size,0,none⟩) 0 2,.slice (some ⟨wr.heap.size+1,0,none⟩) 1 1]).run Tryz.prog
      ((wr.alloc (.cells #[.int .u8 9] 5)).alloc (.cells #[.string ⟨#[9]⟩] 9))=.ok (.slice (some ⟨w.heap.size,0,none⟩) 1 2) Wa:=happ0
     have za:Wa.cell? ⟨w.heap.size+1,256,none⟩=some (.slice (some ⟨w.heap.size,0,none⟩) 0 2):=by rw[zag k1];exact q4
     have ya:=zcg k1 256
     obtain⟨Wb,p,c,hcv,hB2,hsz2,m1,m3⟩:=rp_B (.slice (some ⟨w.heap.size,0,none⟩) 1 2) hB1 hsz1 q2 k1 k3
     have zb:Wb.cell? ⟨w.heap.size+1,9,none⟩=some (.slice none 0 0):=by
      have h:=q5 9 (by decide)
      rw[if_neg (by decide)]at h
      rw[zag m1,Array.getElem?_setIfInBounds,if_neg (by decide)];exact h
     have yb:=zcg m1 9
     go_wp2_with (at_builtin;refine zDf rfl rfl rfl rfl happ ?_)
     go_roundg 1
     case measure=>omega
     case rel=>exact⟨1,rp_C 0 9 p c (by decide) hB2 hsz2 q2 m1 m3 q5 (k4 (by trivial)) (fun h=>absurd h (by decide)),.inr (.inl ⟨rfl,rfl,rfl⟩)⟩
    .obtain ⟨hB,hsz,arr,c0,c1,q1,q2,q3,q4,q5,q6,q7⟩:=hst
     have g0:=yD hB r0
     have g1:=yD hB r1
     have g2:=yD hB r2
     have g3:=yD hB r3
     have zo:wr.cell? ⟨w.heap.size+1,32,none⟩=some (.slice none 0 0):=by
      have h:=q5 32 (by decide)
      rw[if_neg (by decide)]at h
      rw[zag q1];exact h
     have z256:wr.cell? ⟨w.heap.size+1,256,none⟩=some (.slice (some ⟨w.heap.size,0,none⟩) 1 2):=by rw[zag q1];exact q4
     have hbts:(convert 34 9 (.slice (some ⟨wr.heap.size,0,none⟩) 1 1)).run Tryz.prog (wr.alloc (.cells #[.int .u8 32] 5))=.ok (.string ⟨#[32]⟩) (wr.alloc (.cells #[.int .u8 32] 5)):=zIm 32 wr
     obtain⟨Wa,d0,d1,happ0,hB1,hsz1,k1,k3,k4,k5⟩:=rp_A 1 (by decide) 32 hB hsz q1 q3
     have happ:(Builtin.append_ #[23,23] 23 #[.slice (some ⟨w.heap.size,0,none⟩) 1 2,.slice (some ⟨wr.heap.size+1,0,none⟩) 1 1]).run Tryz.prog
      ((wr.alloc (.cells #[.int .u8 32] 5)).alloc (.cells #[.string ⟨#[32]⟩] 9))=.ok (.slice (some ⟨w.heap.size,0,none⟩) 2 2) Wa:=happ0
     have za:Wa.cell? ⟨w.heap.size+1,256,none⟩=some (.slice (some ⟨w.heap.size,0,none⟩) 1 2):=by rw[zag k1];exact q4
     have ya:=zcg k1 256
     obtain⟨Wb,p,c,hcv,hB2,hsz2,m1,m3⟩:=rp_B (.slice (some ⟨w.heap.size,0,none⟩) 2 2) hB1 hsz1 q2 k1 k3
     have zb:Wb.cell? ⟨w.heap.size+1,32,none⟩=some (.slice none 0 0):=by
      have h:=q5 32 (by decide)
      rw[if_neg (by decide)]at h
      rw[zag m1,Array.getElem?_setIfInBounds,if_neg (by decide)];exact h
     have yb:=zcg m1 32
     go_wp2_with (at_builtin;refine zDf rfl rfl rfl rfl happ ?_)
     go_roundg 0
     case measure=>omega
     case rel=>exact⟨2,rp_C 1 32 p c (by decide) hB2 hsz2 q2 m1 m3 q5 ((k5 (by trivial)).1.trans (q6 (by decide))) (fun _=>(k5 (by trivial)).2),.inr (.inr ⟨rfl,rfl,rfl⟩)⟩
    .go_wp2
     go_ret
     exact⟨rfl,hst⟩
end Go.Proofs.YtampckbjinodgaaGreatDoor
