/-
  Lifted functions, and facts about them.
-/
import Derived.Test.YtampckbjinodgaaGreatDoorRows
import Derived.Test.YtampckbjinodgaaGreatDoorC01
import Derived.Test.YtampckbjinodgaaGreatDoorAmC
import Derived.Test.YtampckbjinodgaaGreatDoorC19
set_option linter.unusedVariables false
noncomputable section
namespace Go.Proofs.YtampckbjinodgaaGreatDoor
open Go Go.Am
theorem zDE(sub:List UInt8):∀ (l:List UInt8) (i:Nat),(0<=idx sub l i↔0<=Lib.index l sub)
 | [],i=>by
  rw[idx,Lib.index]
  cases sub with
  | nil=>simp
  | cons c r=>simp
 | b::l,i=>by
  have ih:=zDE sub l (i+1)
  rw[idx,Lib.index]
  by_cases hp:sub.isPrefixOf (b::l)=true
  .rw [if_pos hp,if_pos hp]
   exact⟨fun _=>Int.le_refl 0,fun _=>by omega⟩
  .rw [if_neg hp,if_neg hp,ih]
   have hge:=Lib.index_ge l sub
   by_cases h:Lib.index l sub=-1
   .rw [if_pos (beq_iff_eq.2 h),h]
   .rw [if_neg (fun q=>h (beq_iff_eq.1 q))]
    omega
theorem zRD(s u:List UInt8):decide (zbt s u (0:Int)>=(0:Int))=Lib.contains s u:=by
 unfold Lib.contains zbt
 exact decide_eq_decide.2 (zDE u s 0)
def zQX:=mkG [(24,zeD),(25,zcq)] [] 11 [] [] []
def zMr(F:Nat)(s u:List UInt8):=zF zQX Tryz.f15 F [pS s,pS u]
theorem zMq(F s u):zMr F s u=ze (s.length<=140737488355328) (ze (u.length<=140737488355328) (ze (zhf (zL s) (zL u) 0) (some (.p (.bool (decide ((zbt (zL s) (zL u) 0)>=0))),[])))):=by kernel_rfl
theorem zPe(F s u r):IsP 15 (zMr F s u) [.p (.str s),.p (.str u)] r:=zG zQX rfl ⟨zjq.any,zeG.any,trivial⟩
theorem zN1(s u:List UInt8)(h:s.length<=1000000/\u.length<=1000000):zMr 0 s u=some (.p (.bool (inS s u)),[]):=by
 have h1:(zL s).length=s.length:=by unfold zL;simp
 have h2:(zL u).length=u.length:=by unfold zL;simp
 rw[zMq,inS,zRD]
 exact zd (by omega) (zd (by omega) (zd ⟨by omega,by omega,by omega⟩ rfl))
def zub:List AV->Option (AV×Option Prop)
 | [.p (.str s),.p (.str u)]=>some (.p (.bool (inS s u)),some (s.length<=1000000/\u.length<=1000000))
 | _=>none
theorem zOo:zn Tryz.prog 15 zub:=by
 intro zs r ok he hok
 unfold zub at he
 split at he
 .cases he;exact⟨by kernel_rfl,zPe 0 _ _ _ fun _=>zN1 _ _ hok⟩
 .cases he
def zn1:=mkG [] [] 28 [] [([0,1,0,1],⟨[0,1,5],[]⟩),([1,0,0,1,0,0,1,0,1],⟨[0,1,5,27],[]⟩)] []
def zhC(F f1:Nat)(l:List (Int×Int))(n vi1:Int):=zH zn1 Tryz.f121 F [] [1,0,1,0] f1 [(0,pL 2 (.pair (.int .i64) (.int .i64)) l),(1,pI n),(5,pI vi1)] []
def ztC(F f1:Nat)(l:List (Int×Int))(n vi1:Int)(vc2:Bool):=zx zn1 Tryz.f121 F [f1] [1,0,1,0,0,1,0,0,1] [(0,pL 2 (.pair (.int .i64) (.int .i64)) l),(1,pI n),(5,pI vi1),(27,pB vc2)] []
def zvI(F:Nat)(l:List (Int×Int))(n:Int):=zF zn1 Tryz.f121 F [pL 2 (.pair (.int .i64) (.int .i64)) l,pI n]
theorem zkx(F f1 l n vi1):letI A:=l.getD vi1.toNat ((0:Int),(0:Int));letI B:=(l.length:Int);letI C:=decide (A.1<=n);zhC F (f1+1) l n vi1=cond (decide (vi1<B)) (ze (0<=vi1/\vi1<B) (ze (C=true->0<=vi1/\vi1<B) (ztC F f1 l n vi1 (C&&(decide (n<=A.2)))))) (some (.p (.bool false),[])):=letI A:=(decide ((l.getD vi1.toNat ((0:Int),(0:Int))).1<=n))=true;Eq.trans (by kernel_rfl) (zj (zf (nI A (nI A (zf (nI A (nI A (nI A (nI A (nI A rfl))))))))) rfl)
theorem zwj(F f1 l n vi1 vc2):ztC F f1 l n vi1 vc2=cond vc2 (some (.p (.bool true),[])) (ze (zh (vi1+1)) (zhC F f1 l n (vi1+1))):=by kernel_rfl
theorem zBU(F l n):zvI F l n=zhC F F l n 0:=by kernel_rfl
theorem zGe(F l n r):IsP 121 (zvI F l n) [.p (.list 2 (.dat (.pair (.int .i64) (.int .i64)) l)),.p (.int .i64 n)] r:=zG zn1 rfl trivial
theorem zmr(F:Nat)(l:List (Int×Int))(n:Int)(hl:l.length<=1000000):∀ (r:List (Int×Int)) (f i:Nat),l.drop i=r->i+r.length=l.length->r.length<f->
 zhC F f l n (i:Int)=some (.p (.bool (r.any (uP (0,n)))),[])
 | [],f,i,hd,hi,hf=>by
  obtain⟨f,rfl⟩:∃ k,f=k+1:=⟨f-1,by omega⟩
  have hi:i=l.length:=by simpa using hi
  rw[zkx]
  exact zg (decide_eq_false (by omega)) rfl
 | x::r,f,i,hd,hi,hf=>by
  obtain⟨f,rfl⟩:∃ k,f=k+1:=⟨f-1,by omega⟩
  obtain⟨hg,hd2,hlt⟩:=yF hd ((0:Int),(0:Int))
  rw[List.length_cons]at hi hf
  rw[zkx,Int.toNat_natCast,hg,List.any_cons]
  refine zi (decide_eq_true (by omega)) (zd ⟨by omega,by omega⟩ (zd (fun _=>⟨by omega,by omega⟩) ?_))
  rw[zwj]
  show cond (uP (0,n) x) _ _=_
  cases uP (0,n) x with
  | true=>rfl
  | false=>
   refine zd (by unfold zh;omega) ?_
   rw[show((i:Int)+1)=((i+1:Nat):Int) by omega,Bool.false_or]
   exact zmr F l n hl r f (i+1) hd2 (by omega) (by omega)
theorem zFc(l:List (Int×Int))(n:Int)(hl:l.length<=1000000):zvI (l.length+1) l n=some (.p (.bool (l.any (uP (0,n)))),[]):=by
 rw[zBU]
 exact zmr _ l n hl l _ 0 rfl (by simp) (by omega)
def zlk:List AV->Option (AV×Option Prop)
 | [.p l,.p (.int .i64 n)]=>match zA mbC l with
  | some l=>some (.p (.bool (l.any (uP (0,n)))),some (l.length<=1000000))
  | none=>none
 | _=>none
theorem zFv:zn Tryz.prog 121 zlk:=by
 intro zs r ok he hok
 unfold zlk at he
 split at he
 .rename_i l' n
  split at he
  .rename_i l hl
   cases he
   exact⟨by kernel_rfl,FnP.lq (ys:=[.p (.list 2 (.dat mbC l)),.p (.int .i64 n)]) ⟨Lq.list (a:=mbC) hl,Lq.refl _,trivial⟩ (zGe _ l n _ fun _=>zFc l n hok)⟩
  .cases he
 .cases he
def zuB(me:List (Int×Int))(n:Int)(st:List (Int×Int))(set:Bool):Bool:=me.any fun x=>(x.1==n)&&(!set||st.any (uP (0,x.2)))
def zj2:=mkG [(121,zlk)] [] 39 [] [([0,1,0,1],⟨[2,3,4,7],[⟨.slot 3,3,.cells []⟩,⟨.slot 4,4,.cells []⟩]⟩),([1,0,0,1,0,0,1,0,1],⟨[2,3,4,7,38],[⟨.slot 3,3,.cells []⟩,⟨.slot 4,4,.cells []⟩]⟩)] []
def zfD(F f1:Nat)(set:Bool)(vi1 vi2 vi3:Int)(vs4:List UInt8)(vi5:Int)(vl6:List (List UInt8))(vl7:List (Int×Int))(vi8 vi9 vi10 vi11:Int)(vs12 vs13:List UInt8)(vl14:List (Int×Int))(vl15:List Int):=zH zj2 Tryz.f89 F [] [1,0,1,0] f1 [(2,pB set),(3,.ref 3 0),(4,.ref 4 0),(7,pI vi1)] [(3,.cells [pI vi2,pI vi3,pS vs4,pI vi5,pL 1 .str vl6,pL 2 (.pair (.int .i64) (.int .i64)) vl7,pI vi8,pI vi9]),(4,.cells [pI vi10,pI vi11,pS vs12,pS vs13,pL 2 (.pair (.int .i64) (.int .i64)) vl14,pL 1 (.int .i64) vl15])]
def zqR(F f1:Nat)(set:Bool)(vi1:Int)(vc16:Bool)(vi2 vi3:Int)(vs4:List UInt8)(vi5:Int)(vl6:List (List UInt8))(vl7:List (Int×Int))(vi8 vi9 vi10 vi11:Int)(vs12 vs13:List UInt8)(vl14:List (Int×Int))(vl15:List Int):=zx zj2 Tryz.f89 F [f1] [1,0,1,0,0,1,0,0,1] [(2,pB set),(3,.ref 3 0),(4,.ref 4 0),(7,pI vi1),(38,pB vc16)] [(3,.cells [pI vi2,pI vi3,pS vs4,pI vi5,pL 1 .str vl6,pL 2 (.pair (.int .i64) (.int .i64)) vl7,pI vi8,pI vi9]),(4,.cells [pI vi10,pI vi11,pS vs12,pS vs13,pL 2 (.pair (.int .i64) (.int .i64)) vl14,pL 1 (.int .i64) vl15])]
def zys(F:Nat)(id th:Int)(tx:List UInt8)(at_:Int)(ke:List (List UInt8))(me:List (Int×Int))(mo bo tk tn:Int)(tnm tsx:List UInt8)(tst:List (Int×Int))(tkd:List Int)(set:Bool):=zF zj2 Tryz.f89 F [.agg [pI id,pI th,pS tx,pI at_,pL 1 .str ke,pL 2 (.pair (.int .i64) (.int .i64)) me,pI mo,pI bo],.agg [pI tk,pI tn,pS tnm,pS tsx,pL 2 (.pair (.int .i64) (.int .i64)) tst,pL 1 (.int .i64) tkd],pB set]
theorem zib(F f1 set vi1 vi2 vi3 vs4 vi5 vl6 vl7 vi8 vi9 vi10 vi11 vs12 vs13 vl14 vl15):letI A:=vl7.getD vi1.toNat ((0:Int),(0:Int));letI B:=(vl7.length:Int);letI C:=(A.1==vi11)&&(!(!set));zfD F (f1+1) set vi1 vi2 vi3 vs4 vi5 vl6 vl7 vi8 vi9 vi10 vi11 vs12 vs13 vl14 vl15=cond (decide (vi1<B)) (ze (0<=vi1/\vi1<B) (ze (C=true->0<=vi1/\vi1<B) (ze (C=true->vl14.length<=1000000) (zqR F f1 set vi1 ((A.1==vi11)&&((!set)||(vl14.any (uP (0,A.2))))) vi2 vi3 vs4 vi5 vl6 vl7 vi8 vi9 vi10 vi11 vs12 vs13 vl14 vl15)))) (some (.p (.bool false),[])):=letI A:=(vl7.getD vi1.toNat ((0:Int),(0:Int))).1==vi11;letI B:=(A&&(!(!set)))=true;letI C:=A=true;Eq.trans (by kernel_rfl) (zj (zf (nI C (nI C (nI B (nI B (nI B (nI B (zf (nI B (nI B (nI B (nI B (zf (nI C (zl (show A=true->(!set)=false->(A&&(!(!set)))=true from(fun q0 q1=>(zfx q0 (zen q1)))) (nI C rfl)))))))))))))))) rfl)
theorem zrS(F f1 set vi1 vc16 vi2 vi3 vs4 vi5 vl6 vl7 vi8 vi9 vi10 vi11 vs12 vs13 vl14 vl15):zqR F f1 set vi1 vc16 vi2 vi3 vs4 vi5 vl6 vl7 vi8 vi9 vi10 vi11 vs12 vs13 vl14 vl15=cond vc16 (some (.p (.bool true),[])) (ze (zh (vi1+1)) (zfD F f1 set (vi1+1) vi2 vi3 vs4 vi5 vl6 vl7 vi8 vi9 vi10 vi11 vs12 vs13 vl14 vl15)):=by kernel_rfl
theorem zyr(F id th tx at_ ke me mo bo tk tn tnm tsx tst tkd set):zys F id th tx at_ ke me mo bo tk tn tnm tsx tst tkd set=zfD F F set 0 id th tx at_ ke me mo bo tk tn tnm tsx tst tkd:=by kernel_rfl
theorem zAT(F id th tx at_ ke me mo bo tk tn tnm tsx tst tkd set r):IsP 89 (zys F id th tx at_ ke me mo bo tk tn tnm tsx tst tkd set) [.agg [.p (.int .i64 id),.p (.int .i64 th),.p (.str tx),.p (.int .i64 at_),.p (.list 1 (.dat .str ke)),.p (.list 2 (.dat (.pair (.int .i64) (.int .i64)) me)),.p (.int .i64 mo),.p (.int .i64 bo)],.agg [.p (.int .i64 tk),.p (.int .i64 tn),.p (.str tnm),.p (.str tsx),.p (.list 2 (.dat (.pair (.int .i64) (.int .i64)) tst)),.p (.list 1 (.dat (.int .i64) tkd))],.p (.bool set)] r:=zG zj2 rfl ⟨zFv.any,trivial⟩
theorem zjk(F:Nat)(set:Bool)(id th:Int)(x:List UInt8)(at_:Int)(ke:List (List UInt8))(me:List (Int×Int))(mo bo tk tn:Int)(tnm tsx:List UInt8)(tst:List (Int×Int))(tkd:List Int)(h1:me.length<=1000000)(h2:tst.length<=1000000):∀ (r:List (Int×Int)) (f i:Nat),me.drop i=r->i+r.length=me.length->r.length<f->
 zfD F f set (i:Int) id th x at_ ke me mo bo tk tn tnm tsx tst tkd=some (.p (.bool (zuB r tn tst set)),[])
 | [],f,i,hd,hi,hf=>by
  obtain⟨f,rfl⟩:∃ k,f=k+1:=⟨f-1,by omega⟩
  have hi:i=me.length:=by simpa using hi
  rw[zib]
  exact zg (decide_eq_false (by omega)) rfl
 | y::r,f,i,hd,hi,hf=>by
  obtain⟨f,rfl⟩:∃ k,f=k+1:=⟨f-1,by omega⟩
  obtain⟨hg,hd2,hlt⟩:=yF hd ((0:Int),(0:Int))
  rw[List.length_cons]at hi hf
  rw[zib,Int.toNat_natCast,hg,zuB,List.any_cons]
  refine zi (decide_eq_true (by omega)) (zd ⟨by omega,by omega⟩ (zd (fun _=>⟨by omega,by omega⟩) (zd (fun _=>h2) ?_)))
  rw[zrS]
  cases((y.1==tn)&&(!set||tst.any (uP (0,y.2))))with
  | true=>rfl
  | false=>
   refine zd (by unfold zh;omega) ?_
   rw[show((i:Int)+1)=((i+1:Nat):Int) by omega,Bool.false_or]
   exact zjk F set id th x at_ ke me mo bo tk tn tnm tsx tst tkd h1 h2 r f (i+1) hd2 (by omega) (by omega)
def ziu:List AV->Option (AV×Option Prop)
 | [.agg [.p (.int .i64 id),.p (.int .i64 th),.p (.str x),.p (.int .i64 at_),.p ke,.p me,.p (.int .i64 mo),.p (.int .i64 bo)],.agg [.p (.int .i64 tk),.p (.int .i64 tn),.p (.str tnm),.p (.str tsx),.p tst,.p tkd],.p (.bool set)]=>
  match zA .str ke,zA mbC me,zA mbC tst,zA zbu tkd with
  | some ke',some me',some tst',some tkd'=>some (.p (.bool (zuB me' tn tst' set)),some (me'.length<=1000000/\tst'.length<=1000000))
  | _,_,_,_=>none
 | _=>none
theorem zDb{tk tn:Int}{tnm tsx:List UInt8}{tst tkd:PV}{tst':List (Int×Int)}{tkd':List Int}(h1:zA mbC tst=some tst')(h2:zA zbu tkd=some tkd'):
 Lq (.agg [.p (.int .i64 tk),.p (.int .i64 tn),.p (.str tnm),.p (.str tsx),.p tst,.p tkd]) (.agg [.p (.int .i64 tk),.p (.int .i64 tn),.p (.str tnm),.p (.str tsx),.p (.list (wid mbC) (.dat mbC tst')),.p (.list (wid zbu) (.dat zbu tkd'))]):=
 Lq.agg ⟨Lq.refl _,Lq.refl _,Lq.refl _,Lq.refl _,Lq.list (a:=mbC) h1,Lq.list (a:=zbu) h2,trivial⟩
theorem zAs:zn Tryz.prog 89 ziu:=by
 intro zs r ok he hok
 unfold ziu at he
 split at he
 .rename_i id th x at_ ke me mo bo tk tn tnm tsx tst tkd set
  split at he
  .rename_i ke' me' tst' tkd' h1 h2 h3 h4
   cases he
   exact⟨by kernel_rfl,FnP.lq (ys:=[.agg [.p (.int .i64 id),.p (.int .i64 th),.p (.str x),.p (.int .i64 at_),.p (.list (wid .str) (.dat .str ke')),.p (.list (wid mbC) (.dat mbC me')),.p (.int .i64 mo),.p (.int .i64 bo)],.agg [.p (.int .i64 tk),.p (.int .i64 tn),.p (.str tnm),.p (.str tsx),.p (.list (wid mbC) (.dat mbC tst')),.p (.list (wid zbu) (.dat zbu tkd'))],.p (.bool set)])
    ⟨zd2 h1 h2,zDb h3 h4,Lq.refl _,trivial⟩ (zAT (me'.length+1) id th x at_ ke' me' mo bo tk tn tnm tsx tst' tkd' set _ fun _=>by
     rw[zyr]
     exact zjk _ set id th x at_ ke' me' mo bo tk tn tnm tsx tst' tkd' hok.1 hok.2 me' _ 0 rfl (by simp) (by omega))⟩
  .cases he
 .cases he
def zsj(t:zr)(fl:List (List UInt8×List UInt8))(b:List UInt8):Bool:=
 if t.1=13 then inS b t.2.2.2.1 else if t.1=12 then fl.any (hP t) else if t.1=11 then(fl.any (tP t)||inS b t.2.2.2.1) else false
abbrev ztR(t:zr)(fl:List (List UInt8×List UInt8))(b:List UInt8):Prop:=b.length<=1000000/\t.2.2.2.1.length<=1000000/\fl.length<=1000000/\∀ g ∈ fl,fok t g
def zl6:=mkG [(15,zub),(25,zcq)] [] 65 [] [([0,1,0,1,1,1,0,1,0,1],⟨[1,3,7],[⟨.slot 3,3,.cells []⟩]⟩),([1,0,0,1,0,0,1,0,1,1,1,0,1,0,1],⟨[1,3,7,44],[⟨.slot 3,3,.cells []⟩]⟩),([0,1,0,0,1,1,1,1,1,0,1,0,1],⟨[1,2,3,8],[⟨.slot 3,3,.cells []⟩]⟩),([1,1],⟨[],[]⟩)] []
def zkd(F f1:Nat)(fl:List (List UInt8×List UInt8))(vi1 vi2 vi3:Int)(vs4 vs5:List UInt8)(vl6:List (Int×Int))(vl7:List Int):=zH zl6 Tryz.f91 F [] [1,0,1,0,1,1,1,0,1,0] f1 [(1,pL 2 (.pair .str .str) fl),(3,.ref 3 0),(7,pI vi1)] [(3,.cells [pI vi2,pI vi3,pS vs4,pS vs5,pL 2 (.pair (.int .i64) (.int .i64)) vl6,pL 1 (.int .i64) vl7])]
def zyO(F f1:Nat)(fl:List (List UInt8×List UInt8))(vi1:Int)(vc8:Bool)(vi2 vi3:Int)(vs4 vs5:List UInt8)(vl6:List (Int×Int))(vl7:List Int):=zx zl6 Tryz.f91 F [f1] [1,0,1,0,1,1,1,0,1,0,0,1,0,0,1] [(1,pL 2 (.pair .str .str) fl),(3,.ref 3 0),(7,pI vi1),(44,pB vc8)] [(3,.cells [pI vi2,pI vi3,pS vs4,pS vs5,pL 2 (.pair (.int .i64) (.int .i64)) vl6,pL 1 (.int .i64) vl7])]
def zqO(F:Nat) :=zx zl6 Tryz.f91 F [] [1,1] [] []
def zkc(F f2:Nat)(fl:List (List UInt8×List UInt8))(b:List UInt8)(vi9 vi10 vi11:Int)(vs12 vs13:List UInt8)(vl14:List (Int×Int))(vl15:List Int):=zH zl6 Tryz.f91 F [] [1,0,1,0,1,1,1,1,1,0,0,1,0] f2 [(1,pL 2 (.pair .str .str) fl),(2,pS b),(3,.ref 3 0),(8,pI vi9)] [(3,.cells [pI vi10,pI vi11,pS vs12,pS vs13,pL 2 (.pair (.int .i64) (.int .i64)) vl14,pL 1 (.int .i64) vl15])]
def zBI(F:Nat)(tk tn:Int)(tnm tsx:List UInt8)(tst:List (Int×Int))(tkd:List Int)(fl:List (List UInt8×List UInt8))(b:List UInt8):=zF zl6 Tryz.f91 F [.agg [pI tk,pI tn,pS tnm,pS tsx,pL 2 (.pair (.int .i64) (.int .i64)) tst,pL 1 (.int .i64) tkd],pL 2 (.pair .str .str) fl,pS b]
theorem zmY(F f1 fl vi1 vi2 vi3 vs4 vs5 vl6 vl7):letI A:=fl.getD vi1.toNat ([],[]);letI B:=(zL A.1)==(zL vs4);letI C:=(fl.length:Int);zkd F (f1+1) fl vi1 vi2 vi3 vs4 vs5 vl6 vl7=cond (decide (vi1<C)) (ze (0<=vi1/\vi1<C) (ze (A.1.length<=140737488355328) (ze (vs4.length<=140737488355328) (ze (B=true->0<=vi1/\vi1<C) (ze (B=true->A.2.length<=1000000/\vs5.length<=1000000) (zyO F f1 fl vi1 (B&&(inS A.2 vs5)) vi2 vi3 vs4 vs5 vl6 vl7)))))) (zqO F):=letI A:=((zL (fl.getD vi1.toNat ([],[])).1)==(zL vs4))=true;Eq.trans (by kernel_rfl) (zj (zf (zf (zf (nI A (nI A (zf (nI A (nI A (nI A (nI A (nI A (zf (nI A rfl))))))))))))) rfl)
theorem zyN(F f1 fl vi1 vc8 vi2 vi3 vs4 vs5 vl6 vl7):zyO F f1 fl vi1 vc8 vi2 vi3 vs4 vs5 vl6 vl7=cond vc8 (some (.p (.bool true),[])) (ze (zh (vi1+1)) (zkd F f1 fl (vi1+1) vi2 vi3 vs4 vs5 vl6 vl7)):=by kernel_rfl
theorem zmX(F):zqO F =some (.p (.bool false),[]):=by kernel_rfl
theorem zmW(F f2 fl b vi9 vi10 vi11 vs12 vs13 vl14 vl15):letI A:=fl.getD vi9.toNat ([],[]);letI B:=(fl.length:Int);zkc F (f2+1) fl b vi9 vi10 vi11 vs12 vs13 vl14 vl15=cond (decide (vi9<B)) (ze (0<=vi9/\vi9<B) (ze (A.2.length<=1000000/\vs13.length<=1000000) (cond (inS A.2 vs13) (some (.p (.bool true),[])) (ze (zh (vi9+1)) (zkc F f2 fl b (vi9+1) vi10 vi11 vs12 vs13 vl14 vl15))))) (ze (b.length<=1000000/\vs13.length<=1000000) (some (.p (.bool (inS b vs13)),[]))):=by kernel_rfl
theorem zG5(F tk tn tnm tsx tst tkd fl b):zBI F tk tn tnm tsx tst tkd fl b=cond (tk==13) (ze (b.length<=1000000/\tsx.length<=1000000) (some (.p (.bool (inS b tsx)),[]))) (cond (tk==12) (zkd F F fl 0 tk tn tnm tsx tst tkd) (cond (tk==11) (zkc F F fl b 0 tk tn tnm tsx tst tkd) (zqO F))):=by kernel_rfl
theorem zJY(F tk tn tnm tsx tst tkd fl b r):IsP 91 (zBI F tk tn tnm tsx tst tkd fl b) [.agg [.p (.int .i64 tk),.p (.int .i64 tn),.p (.str tnm),.p (.str tsx),.p (.list 2 (.dat (.pair (.int .i64) (.int .i64)) tst)),.p (.list 1 (.dat (.int .i64) tkd))],.p (.list 2 (.dat (.pair .str .str) fl)),.p (.str b)] r:=zG zl6 rfl ⟨zOo.any,zeG.any,trivial⟩
theorem zwQ(F:Nat)(t:zr)(fl:List (List UInt8×List UInt8))(hl:fl.length<=1000000)(hk:∀ g ∈ fl,fok t g):∀ (r:List (List UInt8×List UInt8)) (f i:Nat),fl.drop i=r->i+r.length=fl.length->r.length<f->
 zkd F f fl (i:Int) t.1 t.2.1 t.2.2.1 t.2.2.2.1 t.2.2.2.2.1 t.2.2.2.2.2=some (.p (.bool (r.any (hP t))),[])
 | [],f,i,hd,hi,hf=>by
  obtain⟨f,rfl⟩:∃ k,f=k+1:=⟨f-1,by omega⟩
  have hi:i=fl.length:=by simpa using hi
  rw[zmY,zmX]
  exact zg (decide_eq_false (by omega)) rfl
 | g::r,f,i,hd,hi,hf=>by
  obtain⟨f,rfl⟩:∃ k,f=k+1:=⟨f-1,by omega⟩
  obtain⟨hg,hd2,hlt⟩:=yF hd (([]:List UInt8),([]:List UInt8))
  obtain⟨k1,k2,k3,k4⟩:=hk g (by rw[<-hg];exact yi hlt _)
  rw[List.length_cons]at hi hf
  rw[zmY,Int.toNat_natCast,hg,List.any_cons]
  refine zi (decide_eq_true (by omega)) (zd ⟨by omega,by omega⟩ (zd (by omega) (zd (by omega) (zd (fun _=>⟨by omega,by omega⟩) (zd (fun _=>⟨k2,k4⟩) ?_)))))
  rw[zyN]
  show cond (hP t g) _ _=_
  cases hP t g with
  | true=>rfl
  | false=>
   refine zd (by unfold zh;omega) ?_
   rw[show((i:Int)+1)=((i+1:Nat):Int) by omega,Bool.false_or]
   exact zwQ F t fl hl hk r f (i+1) hd2 (by omega) (by omega)
theorem zwR(F:Nat)(t:zr)(fl:List (List UInt8×List UInt8))(b:List UInt8)(hok:ztR t fl b):∀ (r:List (List UInt8×List UInt8)) (f i:Nat),fl.drop i=r->i+r.length=fl.length->r.length<f->
 zkc F f fl b (i:Int) t.1 t.2.1 t.2.2.1 t.2.2.2.1 t.2.2.2.2.1 t.2.2.2.2.2=some (.p (.bool (r.any (tP t)||inS b t.2.2.2.1)),[])
 | [],f,i,hd,hi,hf=>by
  obtain⟨f,rfl⟩:∃ k,f=k+1:=⟨f-1,by omega⟩
  have hi:i=fl.length:=by simpa using hi
  rw[zmW]
  exact zg (decide_eq_false (by omega)) (zd ⟨hok.1,hok.2.1⟩ rfl)
 | g::r,f,i,hd,hi,hf=>by
  obtain⟨f,rfl⟩:∃ k,f=k+1:=⟨f-1,by omega⟩
  obtain⟨hg,hd2,hlt⟩:=yF hd (([]:List UInt8),([]:List UInt8))
  obtain⟨k1,k2,k3,k4⟩:=hok.2.2.2 g (by rw[<-hg];exact yi hlt _)
  have hl:=hok.2.2.1
  rw[List.length_cons]at hi hf
  rw[zmW,Int.toNat_natCast,hg,List.any_cons]
  refine zi (decide_eq_true (by omega)) (zd ⟨by omega,by omega⟩ (zd ⟨k2,k4⟩ ?_))
  show cond (tP t g) _ _=_
  cases tP t g with
  | true=>rfl
  | false=>
   refine zd (by unfold zh;omega) ?_
   rw[show((i:Int)+1)=((i+1:Nat):Int) by omega,Bool.false_or]
   exact zwR F t fl b hok r f (i+1) hd2 (by omega) (by omega)
theorem zIh(t:zr)(fl:List (List UInt8×List UInt8))(b:List UInt8)(hok:ztR t fl b):zBI (fl.length+1) t.1 t.2.1 t.2.2.1 t.2.2.2.1 t.2.2.2.2.1 t.2.2.2.2.2 fl b=some (.p (.bool (zsj t fl b)),[]):=by
 rw[zG5,zsj]
 by_cases h13:t.1=13
 .rw [if_pos h13];exact zi (beq_iff_eq.2 h13) (zd ⟨hok.1,hok.2.1⟩ rfl)
 rw[if_neg h13]
 refine zg (beq_eq_false_iff_ne.2 h13) ?_
 by_cases h12:t.1=12
 .rw [if_pos h12];exact zi (beq_iff_eq.2 h12) (zwQ _ t fl hok.2.2.1 hok.2.2.2 fl _ 0 rfl (by simp) (by omega))
 rw[if_neg h12]
 refine zg (beq_eq_false_iff_ne.2 h12) ?_
 by_cases h11:t.1=11
 .rw [if_pos h11];exact zi (beq_iff_eq.2 h11) (zwR _ t fl b hok fl _ 0 rfl (by simp) (by omega))
 rw[if_neg h11,zmX]
 exact zg (beq_eq_false_iff_ne.2 h11) rfl
abbrev zGw:Ec:=.pair .str .str
def zoD:List AV->Option (AV×Option Prop)
 | [.agg [.p (.int .i64 tk),.p (.int .i64 tn),.p (.str tnm),.p (.str tsx),.p tst,.p tkd],.p fl,.p (.str b)]=>
  match zA mbC tst,zA zbu tkd,zA zGw fl with
  | some tst',some tkd',some fl'=>some (.p (.bool (zsj (tk,(tn,(tnm,(tsx,(tst',tkd'))))) fl' b)),some (ztR (tk,(tn,(tnm,(tsx,(tst',tkd'))))) fl' b))
  | _,_,_=>none
 | _=>none
theorem zIS:zn Tryz.prog 91 zoD:=by
 intro zs r ok he hok
 unfold zoD at he
 split at he
 .rename_i tk tn tnm tsx tst tkd fl b
  split at he
  .rename_i tst' tkd' fl' h3 h4 h5
   cases he
   exact⟨by kernel_rfl,FnP.lq (ys:=[.agg [.p (.int .i64 tk),.p (.int .i64 tn),.p (.str tnm),.p (.str tsx),.p (.list (wid mbC) (.dat mbC tst')),.p (.list (wid zbu) (.dat zbu tkd'))],.p (.list 2 (.dat zGw fl')),.p (.str b)])
    ⟨zDb h3 h4,Lq.list (a:=zGw) h5,Lq.refl _,trivial⟩ (zJY (fl'.length+1) tk tn tnm tsx tst' tkd' fl' b _ fun _=>zIh (tk,(tn,(tnm,(tsx,(tst',tkd'))))) fl' b hok)⟩
  .cases he
 .cases he
def zry:Nat->yd->List zr->Int->Prop
 | 0,_,_,_=>False
 | k+1,p,f,a=>(0<=a/\a<(f.length:Int))/\zfk p (f.getD a.toNat dT)/\
  ((f.getD a.toNat dT).1<=3->(f.getD a.toNat dT).2.2.2.2.2.length<=1000000/\∀ x ∈ (f.getD a.toNat dT).2.2.2.2.2,zry k p f x)
def zda(k:Nat):List AV->Option (AV×Option Prop)
 | [.p f,.p (.int .i64 a),.agg [.p (.int .i64 id),.p (.int .i64 th),.p (.str x),.p (.int .i64 at_),.p ke,.p me,.p (.int .i64 mo),.p (.int .i64 bo)],.p fl,.p (.str b)]=>
  match zA zu f,zA .str ke,zA mbC me,zA zGw fl with
  | some f',some ke',some me',some fl'=>some (.p (.bool (hGF k ((id,th,x,at_,ke',me',mo,bo),(fl',b)) f' a)),some (zry k ((id,th,x,at_,ke',me',mo,bo),(fl',b)) f' a))
  | _,_,_,_=>none
 | _=>none
def zj3(k:Nat):=mkG [(54,zda k),(89,ziu),(90,znL),(91,zoD)] [] 139 [] [([0,1,0,1,1,1],⟨[0,3,4,7,11,12,13,14],[⟨.slot 7,7,.cells []⟩,⟨.slot 11,11,.cells []⟩]⟩),([1,0,0,1,0,0,1,0,1,1,1],⟨[0,3,4,7,11,12,13,14,15],[⟨.slot 7,7,.cells []⟩,⟨.slot 11,11,.cells []⟩]⟩),([0,1,0,0,1,1,1,1,1,1,1,1,1,0,1,0,1,1,1,1],⟨[7,11,16],[⟨.slot 7,7,.cells []⟩,⟨.slot 11,11,.cells []⟩]⟩)] []
def zeY(k F f1:Nat)(f:List zr)(fl:List (List UInt8×List UInt8))(b:List UInt8)(vc1 vc2:Bool)(vi3 vi4 vi5:Int)(vs6:List UInt8)(vi7:Int)(vl8:List (List UInt8))(vl9:List (Int×Int))(vi10 vi11 vi12 vi13:Int)(vs14 vs15:List UInt8)(vl16:List (Int×Int))(vl17:List Int):=zH (zj3 k) Tryz.f54 F [] [1,1,1,0,1,0] f1 [(0,pL 6 zu f),(3,pL 2 (.pair .str .str) fl),(4,pS b),(7,.ref 7 0),(11,.ref 11 0),(12,pB vc1),(13,pB vc2),(14,pI vi3)] [(7,.cells [pI vi4,pI vi5,pS vs6,pI vi7,pL 1 .str vl8,pL 2 (.pair (.int .i64) (.int .i64)) vl9,pI vi10,pI vi11]),(11,.cells [pI vi12,pI vi13,pS vs14,pS vs15,pL 2 (.pair (.int .i64) (.int .i64)) vl16,pL 1 (.int .i64) vl17])]
def ztA(k F f1:Nat)(f:List zr)(fl:List (List UInt8×List UInt8))(b:List UInt8)(vc1 vc2:Bool)(vi3:Int)(vc18:Bool)(vi4 vi5:Int)(vs6:List UInt8)(vi7:Int)(vl8:List (List UInt8))(vl9:List (Int×Int))(vi10 vi11 vi12 vi13:Int)(vs14 vs15:List UInt8)(vl16:List (Int×Int))(vl17:List Int):=zx (zj3 k) Tryz.f54 F [f1] [1,1,1,0,1,0,0,1,0,0,1] [(0,pL 6 zu f),(3,pL 2 (.pair .str .str) fl),(4,pS b),(7,.ref 7 0),(11,.ref 11 0),(12,pB vc1),(13,pB vc2),(14,pI vi3),(15,pB vc18)] [(7,.cells [pI vi4,pI vi5,pS vs6,pI vi7,pL 1 .str vl8,pL 2 (.pair (.int .i64) (.int .i64)) vl9,pI vi10,pI vi11]),(11,.cells [pI vi12,pI vi13,pS vs14,pS vs15,pL 2 (.pair (.int .i64) (.int .i64)) vl16,pL 1 (.int .i64) vl17])]
def zhx(k F f2:Nat)(vi19 vi4 vi5:Int)(vs6:List UInt8)(vi7:Int)(vl8:List (List UInt8))(vl9:List (Int×Int))(vi10 vi11 vi12 vi13:Int)(vs14 vs15:List UInt8)(vl16:List (Int×Int))(vl17:List Int):=zH (zj3 k) Tryz.f54 F [] [1,1,1,1,0,1,0,1,1,1,1,1,1,1,1,1,0,0,1,0] f2 [(7,.ref 7 0),(11,.ref 11 0),(16,pI vi19)] [(7,.cells [pI vi4,pI vi5,pS vs6,pI vi7,pL 1 .str vl8,pL 2 (.pair (.int .i64) (.int .i64)) vl9,pI vi10,pI vi11]),(11,.cells [pI vi12,pI vi13,pS vs14,pS vs15,pL 2 (.pair (.int .i64) (.int .i64)) vl16,pL 1 (.int .i64) vl17])]
def zvF(k F:Nat)(f:List zr)(a0 id th:Int)(tx:List UInt8)(at_:Int)(ke:List (List UInt8))(me:List (Int×Int))(mo bo:Int)(fl:List (List UInt8×List UInt8))(b:List UInt8):=zF (zj3 k) Tryz.f54 F [pL 6 zu f,pI a0,.agg [pI id,pI th,pS tx,pI at_,pL 1 .str ke,pL 2 (.pair (.int .i64) (.int .i64)) me,pI mo,pI bo],pL 2 (.pair .str .str) fl,pS b]
theorem zkq(k:Nat)(F f1 f fl b vc1 vc2 vi3 vi4 vi5 vs6 vi7 vl8 vl9 vi10 vi11 vi12 vi13 vs14 vs15 vl16 vl17):letI A:=vl9.length<=1000000/\vl16.length<=1000000;letI B:=vl17.getD vi3.toNat (0:Int);letI C:=(vl17.length:Int);letI D:=(vs6.length:Int);zeY k F (f1+1) f fl b vc1 vc2 vi3 vi4 vi5 vs6 vi7 vl8 vl9 vi10 vi11 vi12 vi13 vs14 vs15 vl16 vl17=cond ((decide (vi3<C))&&(decide (vi12<=3))) (ze (0<=vi3/\vi3<C) (ze (zry k ((vi4,(vi5,(vs6,(vi7,(vl8,(vl9,(vi10,vi11))))))),(fl,b)) f B) (ztA k F f1 f fl b vc1 vc2 vi3 (hGF k ((vi4,(vi5,(vs6,(vi7,(vl8,(vl9,(vi10,vi11))))))),(fl,b)) f B) vi4 vi5 vs6 vi7 vl8 vl9 vi10 vi11 vi12 vi13 vs14 vs15 vl16 vl17))) (cond (vi12==1) (some (.p (.bool vc2),[])) (cond (vi12==2) (some (.p (.bool vc1),[])) (cond (vi12==3) (some (.p (.bool (!vc1)),[])) (cond (vi12==4) (ze A (some (.p (.bool (zuB vl9 vi13 vl16 false)),[]))) (cond (vi12==5) (zhx k F F 0 vi4 vi5 vs6 vi7 vl8 vl9 vi10 vi11 vi12 vi13 vs14 vs15 vl16 vl17) (cond (vi12==6) (some (.p (.bool (vl8.any (vs15==·))),[])) (cond (vi12==7) (some (.p (.bool (decide (vi7<vi13))),[])) (cond (vi12==8) (some (.p (.bool (decide (vi7>=vi13))),[])) (cond (vi12==9) (some (.p (.bool (decide (D>=vi13))),[])) (cond (vi12==10) (some (.p (.bool (decide (D<vi13))),[])) (cond (vi12==14) (ze A (some (.p (.bool (zuB vl9 vi13 vl16 true)),[]))) (cond (vi12==15) (some (.p (.bool (decide (vi10>=vi13))),[])) (ze (ztR (vi12,(vi13,(vs14,(vs15,(vl16,vl17))))) fl b) (some (.p (.bool (zsj (vi12,(vi13,(vs14,(vs15,(vl16,vl17))))) fl b)),[]))))))))))))))):=letI A:=(decide (vi3<(vl17.length:Int)))=true;Eq.trans (by kernel_rfl) (nI A (nI A (nI A rfl)))
theorem zwe(k:Nat)(F f1 f fl b vc1 vc2 vi3 vc18 vi4 vi5 vs6 vi7 vl8 vl9 vi10 vi11 vi12 vi13 vs14 vs15 vl16 vl17):ztA k F f1 f fl b vc1 vc2 vi3 vc18 vi4 vi5 vs6 vi7 vl8 vl9 vi10 vi11 vi12 vi13 vs14 vs15 vl16 vl17=ze (zh (vi3+1)) (zeY k F f1 f fl b (vc1||vc18) (vc2&&vc18) (vi3+1) vi4 vi5 vs6 vi7 vl8 vl9 vi10 vi11 vi12 vi13 vs14 vs15 vl16 vl17):=Eq.trans (by kernel_rfl) (nN vc1 (nI (vc2=true) rfl))
theorem zkp(k:Nat)(F f2 vi19 vi4 vi5 vs6 vi7 vl8 vl9 vi10 vi11 vi12 vi13 vs14 vs15 vl16 vl17):letI A:=(vl9.length:Int);zhx k F (f2+1) vi19 vi4 vi5 vs6 vi7 vl8 vl9 vi10 vi11 vi12 vi13 vs14 vs15 vl16 vl17=cond (decide (vi19<A)) (ze (0<=vi19/\vi19<A) (cond ((vl9.getD vi19.toNat ((0:Int),(0:Int))).1 != vi13) (some (.p (.bool true),[])) (ze (zh (vi19+1)) (zhx k F f2 (vi19+1) vi4 vi5 vs6 vi7 vl8 vl9 vi10 vi11 vi12 vi13 vs14 vs15 vl16 vl17)))) (some (.p (.bool false),[])):=by kernel_rfl
theorem zBP(k:Nat)(F f a0 id th tx at_ ke me mo bo fl b):letI A:=f.getD a0.toNat ((0:Int),((0:Int),([],([],([],[])))));zvF k F f a0 id th tx at_ ke me mo bo fl b=ze (0<=a0/\a0<(f.length:Int)) (zeY k F F f fl b false true 0 id th tx at_ ke me mo bo A.1 A.2.1 A.2.2.1 A.2.2.2.1 A.2.2.2.2.1 A.2.2.2.2.2):=by kernel_rfl
theorem zGa(k:Nat)(hrec:zn Tryz.prog 54 (zda k))(F f a0 id th tx at_ ke me mo bo fl b r):IsP 54 (zvF k F f a0 id th tx at_ ke me mo bo fl b) [.p (.list 6 (.dat zu f)),.p (.int .i64 a0),.agg [.p (.int .i64 id),.p (.int .i64 th),.p (.str tx),.p (.int .i64 at_),.p (.list 1 (.dat .str ke)),.p (.list 2 (.dat (.pair (.int .i64) (.int .i64)) me)),.p (.int .i64 mo),.p (.int .i64 bo)],.p (.list 2 (.dat (.pair .str .str) fl)),.p (.str b)] r:=zG (zj3 k) rfl ⟨hrec.any,zAs.any,zDp.any,zIS.any,trivial⟩
theorem rh_5(k F:Nat)(m:zq)(t:zr)(hl:m.2.2.2.2.2.1.length<=1000000):∀ (r:List (Int×Int)) (f i:Nat),m.2.2.2.2.2.1.drop i=r->i+r.length=m.2.2.2.2.2.1.length->r.length<f->
 zhx k F f (i:Int) m.1 m.2.1 m.2.2.1 m.2.2.2.1 m.2.2.2.2.1 m.2.2.2.2.2.1 m.2.2.2.2.2.2.1 m.2.2.2.2.2.2.2 t.1 t.2.1 t.2.2.1 t.2.2.2.1 t.2.2.2.2.1 t.2.2.2.2.2=some (.p (.bool (r.any (inP t.2.1 true))),[])
 | [],f,i,hd,hi,hf=>by
  obtain⟨f,rfl⟩:∃ k,f=k+1:=⟨f-1,by omega⟩
  have hi:i=m.2.2.2.2.2.1.length:=by simpa using hi
  rw[zkp]
  exact zg (decide_eq_false (by omega)) rfl
 | y::r,f,i,hd,hi,hf=>by
  obtain⟨f,rfl⟩:∃ k,f=k+1:=⟨f-1,by omega⟩
  obtain⟨hg,hd2,hlt⟩:=yF hd ((0:Int),(0:Int))
  rw[List.length_cons]at hi hf
  rw[zkp,Int.toNat_natCast,hg,List.any_cons]
  have e:(y.1 != t.2.1)=inP t.2.1 true y:=by
   unfold inP bne
   cases y.1==t.2.1 <;> rfl
  rw[e]
  refine zi (decide_eq_true (by omega)) (zd ⟨by omega,by omega⟩ ?_)
  cases inP t.2.1 true y with
  | true=>rfl
  | false=>
   refine zd (by unfold zh;omega) ?_
   rw[show((i:Int)+1)=((i+1:Nat):Int) by omega,Bool.false_or]
   exact rh_5 k F m t hl r f (i+1) hd2 (by omega) (by omega)
theorem zIs(k F f1:Nat)(f:List zr)(m:zq)(fl:List (List UInt8×List UInt8))(b:List UInt8)(t:zr)(hl:zfk (m,(fl,b)) t)(hF:m.2.2.2.2.2.1.length<F)(sm al:Bool)(i:Int)
 (hi:(decide (i<(t.2.2.2.2.2.length:Int))&&decide (t.1<=(3:Int)))=false):
 zeY k F (f1+1) f fl b sm al i m.1 m.2.1 m.2.2.1 m.2.2.2.1 m.2.2.2.2.1 m.2.2.2.2.2.1 m.2.2.2.2.2.2.1 m.2.2.2.2.2.2.2 t.1 t.2.1 t.2.2.1 t.2.2.2.1 t.2.2.2.2.1 t.2.2.2.2.2=
  some (.p (.bool (if t.1=1 then al else if t.1=2 then sm else if t.1=3 then !sm else zbY (m,(fl,b)) t)),[]):=by
 obtain⟨l1,l2,l3,l4,l5,l6,l7⟩:=hl
 have l1:m.2.2.2.2.2.1.length<=1000000:=l1
 rw[zkq]
 refine zg hi ?_
 by_cases h1:t.1=1
 .rw [if_pos h1];exact zi (beq_iff_eq.2 h1) rfl
 rw[if_neg h1]
 refine zg (beq_eq_false_iff_ne.2 h1) ?_
 by_cases h2:t.1=2
 .rw [if_pos h2];exact zi (beq_iff_eq.2 h2) rfl
 rw[if_neg h2]
 refine zg (beq_eq_false_iff_ne.2 h2) ?_
 by_cases h3:t.1=3
 .rw [if_pos h3];exact zi (beq_iff_eq.2 h3) rfl
 rw[if_neg h3]
 refine zg (beq_eq_false_iff_ne.2 h3) ?_
 have hm0:zuB m.2.2.2.2.2.1 t.2.1 t.2.2.2.2.1 false=m.2.2.2.2.2.1.any (inP t.2.1 false):=by
  unfold zuB
  congr 1
  funext x
  unfold inP
  cases x.1==t.2.1 <;> rfl
 have hm1:zuB m.2.2.2.2.2.1 t.2.1 t.2.2.2.2.1 true=m.2.2.2.2.2.1.any (wiP t.2.1 t.2.2.2.2.1):=by
  unfold zuB
  congr 1
 have kd:∀ v:Bool,zbY (m,(fl,b)) t=v->(some ((.p (.bool v):AV),([]:List (Nat×AObj))):Option (AV×List (Nat×AObj)))=some (.p (.bool (zbY (m,(fl,b)) t)),[]):=fun v hv=>by rw[hv]
 by_cases h4:t.1=4
 .refine zi (beq_iff_eq.2 h4) (zd ⟨l1,l3⟩ (kd _ ?_))
  unfold zbY zgk zgl
  simp only[h4]
  exact hm0.symm
 refine zg (beq_eq_false_iff_ne.2 h4) ?_
 by_cases h5:t.1=5
 .refine zi (beq_iff_eq.2 h5) ((rh_5 k F m t l1 m.2.2.2.2.2.1 F 0 rfl (by simp) hF).trans (kd _ ?_))
  unfold zbY zgk zgl
  simp only[h5]
  rfl
 refine zg (beq_eq_false_iff_ne.2 h5) ?_
 by_cases h6:t.1=6
 .refine zi (beq_iff_eq.2 h6) (kd _ ?_)
  unfold zbY
  rw[if_pos h6]
 refine zg (beq_eq_false_iff_ne.2 h6) ?_
 by_cases h7:t.1=7
 .refine zi (beq_iff_eq.2 h7) (kd _ ?_)
  unfold zbY zgk zgl
  simp only[h7]
  rfl
 refine zg (beq_eq_false_iff_ne.2 h7) ?_
 by_cases h8:t.1=8
 .refine zi (beq_iff_eq.2 h8) (kd _ ?_)
  unfold zbY zgk zgl
  simp only[h8]
  rfl
 refine zg (beq_eq_false_iff_ne.2 h8) ?_
 by_cases h9:t.1=9
 .refine zi (beq_iff_eq.2 h9) (kd _ ?_)
  unfold zbY zgk zgl
  simp only[h9]
  rfl
 refine zg (beq_eq_false_iff_ne.2 h9) ?_
 by_cases h10:t.1=10
 .refine zi (beq_iff_eq.2 h10) (kd _ ?_)
  unfold zbY zgk zgl
  simp only[h10]
  rfl
 refine zg (beq_eq_false_iff_ne.2 h10) ?_
 by_cases h14:t.1=14
 .refine zi (beq_iff_eq.2 h14) (zd ⟨l1,l3⟩ (kd _ ?_))
  unfold zbY zgk zgl
  simp only[h14]
  exact hm1.symm
 refine zg (beq_eq_false_iff_ne.2 h14) ?_
 by_cases h15:t.1=15
 .refine zi (beq_iff_eq.2 h15) (kd _ ?_)
  unfold zbY zgk zgl
  simp only[h15]
  rfl
 refine zg (beq_eq_false_iff_ne.2 h15) (zd ⟨l4,l5,l6,l7⟩ (kd _ ?_))
 unfold zbY zgk zgl
 show _=zsj t fl b
 unfold zsj
 rw[if_neg h6,if_neg h4,if_neg h5,if_neg h14,if_neg h7,if_neg h8,if_neg h9,if_neg h10,if_neg h15]
 by_cases h11:t.1=11
 .rw [if_pos h11,if_neg (by omega),if_neg (by omega),if_pos h11,Bool.or_comm]
 by_cases h12:t.1=12
 .rw [if_neg h11,if_pos h12,if_neg (by omega),if_pos h12]
 by_cases h13:t.1=13
 .rw [if_neg h11,if_neg h12,if_pos h13,if_pos h13]
 .rw [if_neg h11,if_neg h12,if_neg h13,if_neg h13,if_neg h12,if_neg h11]
theorem rh_1(k F:Nat)(f:List zr)(m:zq)(fl:List (List UInt8×List UInt8))(b:List UInt8)(t:zr)(hl:zfk (m,(fl,b)) t)(hF:m.2.2.2.2.2.1.length<F)(h3:t.1<=3)(hkl:t.2.2.2.2.2.length<=1000000)(hk:∀ x ∈ t.2.2.2.2.2,zry k (m,(fl,b)) f x):
 ∀ (r:List Int) (f1 i:Nat) (sm al:Bool),t.2.2.2.2.2.drop i=r->i+r.length=t.2.2.2.2.2.length->r.length<f1->
 zeY k F f1 f fl b sm al (i:Int) m.1 m.2.1 m.2.2.1 m.2.2.2.1 m.2.2.2.2.1 m.2.2.2.2.2.1 m.2.2.2.2.2.2.1 m.2.2.2.2.2.2.2 t.1 t.2.1 t.2.2.1 t.2.2.2.1 t.2.2.2.2.1 t.2.2.2.2.2=
  some (.p (.bool (if t.1=1 then(al&&r.all fun x=>hGF k (m,(fl,b)) f x) else if t.1=2 then(sm||r.any fun x=>hGF k (m,(fl,b)) f x) else if t.1=3 then !(sm||r.any fun x=>hGF k (m,(fl,b)) f x) else zbY (m,(fl,b)) t)),[])
 | [],f1,i,sm,al,hd,hi,hf=>by
  obtain⟨f1,rfl⟩:∃ k,f1=k+1:=⟨f1-1,by omega⟩
  have hi:i=t.2.2.2.2.2.length:=by simpa using hi
  rw[zIs k F f1 f m fl b t hl hF sm al i (by rw[decide_eq_false (show ¬ (i:Int)<(t.2.2.2.2.2.length:Int) by omega)];rfl)]
  rw[List.all_nil,Bool.and_true,List.any_nil,Bool.or_false]
 | x::r,f1,i,sm,al,hd,hi,hf=>by
  obtain⟨f1,rfl⟩:∃ k,f1=k+1:=⟨f1-1,by omega⟩
  obtain⟨hg,hd2,hlt⟩:=yF hd (0:Int)
  have hx:=hk x (by rw[<-hg];exact yi hlt _)
  rw[List.length_cons]at hi hf
  rw[zkq,Int.toNat_natCast,hg]
  refine zi (by rw[Bool.and_eq_true,decide_eq_true_eq,decide_eq_true_eq];exact⟨by omega,h3⟩) (zd ⟨by omega,by omega⟩ (zd hx ?_))
  rw[zwe]
  refine zd (by unfold zh;omega) ?_
  rw[show((i:Int)+1)=((i+1:Nat):Int) by omega]
  refine(rh_1 k F f m fl b t hl hF h3 hkl hk r f1 (i+1) _ _ hd2 (by omega) (by omega)).trans ?_
  rw[List.all_cons,List.any_cons,Bool.and_assoc,Bool.or_assoc]
theorem zE7(k:Nat)(f:List zr)(a:Int)(m:zq)(fl:List (List UInt8×List UInt8))(b:List UInt8)(h:zry (k+1) (m,(fl,b)) f a):
 zvF k (1000002) f a m.1 m.2.1 m.2.2.1 m.2.2.2.1 m.2.2.2.2.1 m.2.2.2.2.2.1 m.2.2.2.2.2.2.1 m.2.2.2.2.2.2.2 fl b=some (.p (.bool (hGF (k+1) (m,(fl,b)) f a)),[]):=by
 rw[zry]at h
 obtain⟨h1,h2,h3⟩:=h
 have hm:m.2.2.2.2.2.1.length<=1000000:=h2.1
 rw[zBP,hGF]
 refine zd h1 ?_
 by_cases hk:(f.getD a.toNat dT).1<=3
 .obtain ⟨k1,k2⟩:=h3 hk
  refine(rh_1 k 1000002 f m fl b (f.getD a.toNat dT) h2 (by omega) hk k1 k2 (f.getD a.toNat dT).2.2.2.2.2 1000002 0 false true rfl (by simp) (by omega)).trans ?_
  rw[Bool.true_and,Bool.false_or,List.all_eq_not_any_not]
 .refine (zIs k 1000002 1000001 f m fl b (f.getD a.toNat dT) h2 (by omega) false true 0 (by rw[decide_eq_false hk,Bool.and_false])).trans ?_
  rw[if_neg (by omega),if_neg (by omega),if_neg (by omega),if_neg (by omega),if_neg (by omega),if_neg (by omega)]
theorem zsK:∀ k,zn Tryz.prog 54 (zda k)
 | 0=>by
  intro zs r ok he hok
  unfold zda at he
  split at he
  .split at he
   .cases he;exact absurd hok (fun h=>h)
   .cases he
  .cases he
 | k+1=>by
  intro zs r ok he hok
  unfold zda at he
  split at he
  .rename_i f a id th x at_ ke me mo bo fl b
   split at he
   .rename_i f' ke' me' fl' h1 h2 h3 h4
    cases he
    exact⟨by kernel_rfl,FnP.lq (ys:=[.p (.list 6 (.dat zu f')),.p (.int .i64 a),.agg [.p (.int .i64 id),.p (.int .i64 th),.p (.str x),.p (.int .i64 at_),.p (.list (wid .str) (.dat .str ke')),.p (.list (wid mbC) (.dat mbC me')),.p (.int .i64 mo),.p (.int .i64 bo)],.p (.list 2 (.dat zGw fl')),.p (.str b)])
     ⟨Lq.list (a:=zu) h1,Lq.refl _,zd2 h2 h3,Lq.list (a:=zGw) h4,Lq.refl _,trivial⟩
     (zGa k (zsK k) 1000002 f' a id th x at_ ke' me' mo bo fl' b _ fun _=>zE7 k f' a (id,th,x,at_,ke',me',mo,bo) fl' b hok)⟩
   .cases he
  .cases he
abbrev zIx(f:List zr)(m:zq):Prop:=zbI f/\m.2.2.1.length<=1000000/\(zaq f=true->f.length≠0->zry 41 (zbX m) f ((f.length:Int)-(1:Int)))
def zEf:=mkG [(10,zlf),(53,zdl),(54,zda 41)] [] 33 [] [] []
def zvL(F:Nat)(f:List zr)(id th:Int)(tx:List UInt8)(at_:Int)(ke:List (List UInt8))(me:List (Int×Int))(mo bo:Int):=zF zEf Tryz.f31 F [pL 6 zu f,.agg [pI id,pI th,pS tx,pI at_,pL 1 .str ke,pL 2 (.pair (.int .i64) (.int .i64)) me,pI mo,pI bo]]
theorem zBX(F f id th tx at_ ke me mo bo):letI A:=zU tx 0 (tx.length:Int);letI B:=(f.length:Int);zvL F f id th tx at_ ke me mo bo=ze (zbI f) (cond (!(zaq f)) (some (.p (.bool false),[])) (cond (B==0) (some (.p (.bool true),[])) (ze (tx.length<=1000000) (ze (zh (B-1)) (ze (0<=A.2/\A.2<=(tx.length:Int)) (ze (zry 41 ((id,(th,(tx,(at_,(ke,(me,(mo,bo))))))),(A.1,tx.drop A.2.toNat)) f (B-1)) (some (.p (.bool (hGF 41 ((id,(th,(tx,(at_,(ke,(me,(mo,bo))))))),(A.1,tx.drop A.2.toNat)) f (B-1))),[])))))))):=by kernel_rfl
theorem zGh(F f id th tx at_ ke me mo bo r):IsP 31 (zvL F f id th tx at_ ke me mo bo) [.p (.list 6 (.dat zu f)),.agg [.p (.int .i64 id),.p (.int .i64 th),.p (.str tx),.p (.int .i64 at_),.p (.list 1 (.dat .str ke)),.p (.list 2 (.dat (.pair (.int .i64) (.int .i64)) me)),.p (.int .i64 mo),.p (.int .i64 bo)]] r:=zG zEf rfl ⟨zFq.any,ziG.any,(zsK 41).any,trivial⟩
theorem zFf(f:List zr)(id th:Int)(x:List UInt8)(at_:Int)(ke:List (List UInt8))(me:List (Int×Int))(mo bo:Int)(h:zIx f (id,th,x,at_,ke,me,mo,bo)):
 zvL 0 f id th x at_ ke me mo bo=some (.p (.bool (zbL f (id,th,x,at_,ke,me,mo,bo))),[]):=by
 obtain⟨h1,h2,h3⟩:=h
 have h2:x.length<=1000000:=h2
 have hsm:=h1.1
 rw[zBX,zbL]
 refine zd h1 ?_
 cases hr:zaq f with
 | false=>rfl
 | true=>
  refine zg rfl ?_
  rw[Bool.true_and]
  by_cases h0:f.length=0
  .rw [h0];rfl
  .have e:((f.length:Int)==(0:Int))=false:=beq_eq_false_iff_ne.2 (by omega)
   rw[e,Bool.false_or]
   exact zg rfl (zd h2 (zd (by unfold zh;omega) (zd (zx3 x) (zd (h3 hr h0) rfl))))
def zlm:List AV->Option (AV×Option Prop)
 | [.p f,.agg [.p (.int .i64 id),.p (.int .i64 th),.p (.str x),.p (.int .i64 at_),.p ke,.p me,.p (.int .i64 mo),.p (.int .i64 bo)]]=>match zA zu f,zA .str ke,zA mbC me with
  | some f,some ke',some me'=>some (.p (.bool (zbL f (id,th,x,at_,ke',me',mo,bo))),some (zIx f (id,th,x,at_,ke',me',mo,bo)))
  | _,_,_=>none
 | _=>none
theorem zFy:zn Tryz.prog 31 zlm:=by
 intro zs r ok he hok
 unfold zlm at he
 split at he
 .rename_i f' id th x at_ ke me mo bo
  split at he
  .rename_i f ke' me' hl hke hme
   cases he
   exact⟨by kernel_rfl,FnP.lq (ys:=[.p (.list 6 (.dat zu f)),.agg [.p (.int .i64 id),.p (.int .i64 th),.p (.str x),.p (.int .i64 at_),.p (.list (wid .str) (.dat .str ke')),.p (.list (wid mbC) (.dat mbC me')),.p (.int .i64 mo),.p (.int .i64 bo)]]) ⟨Lq.list (a:=zu) hl,zd2 hke hme,trivial⟩
    (zGh 0 f id th x at_ ke' me' mo bo _ fun _=>zFf f id th x at_ ke' me' mo bo hok)⟩
  .cases he
 .cases he
def zfY:List zq->List (Int×Int)->List (Int×Int)
 | [],acc=>acc
 | m::r,acc=>if zX (e:=.int .i64) acc m.1 then zfY r acc else zfY r (acc++[(m.1,m.2.1)])
def zhU(thr:List (Int×Int)):List Int->List (Int×Bool)->List Int
 | [],_=>[]
 | i::r,told=>if zX (e:=.int .i64) thr i&&yE (e:=.bool) told (yE (e:=.int .i64) thr i) then zhU thr r told
  else i::zhU thr r (if zX (e:=.int .i64) thr i then told++[(yE (e:=.int .i64) thr i,true)] else told)
def yW(l:List zq)(ids:List Int):List Int:=zhU (zfY l []) ids []
abbrev zjQ(l:List zq)(ids:List Int):Prop:=l.length<=1000/\ids.length<=1000
theorem zos:∀ {told:List (Int×Bool)},(∀ p ∈ told,p.2=true)->∀ k,yE (e:=.bool) told k=zX (e:=.bool) told k
 | [],_,k=>rfl
 | p::r,h,k=>by
  have ih:=zos (told:=r) (fun q hq=>h q (by simp[hq])) k
  rw[yE,zX,List.any_cons]
  cases hk:k==p.1 with
  | true=>exact h p (by simp)
  | false=>rw[Bool.false_or];exact ih
def zbc:=mkG [] [] 66 [] [([0,1,0,1,1],⟨[1,5,17,18,19],[⟨.slot 5,5,.cells []⟩]⟩),([1,0,0,1,1,0,0,1,0,1,1],⟨[1,5,7,17,18,19],[⟨.slot 5,5,.cells []⟩,⟨.slot 7,7,.cells []⟩]⟩),([1,1,1,0,0,1,0,1,1],⟨[1,5,17,18,19],[⟨.slot 5,5,.cells []⟩]⟩),([0,1,0,1,1,1,1,1],⟨[5,10,11,39,40,41],[⟨.slot 5,5,.cells []⟩,⟨.slot 10,10,.cells []⟩,⟨.slot 11,11,(.larr 3 false 1 (.dat (.int .i64) ([]:List Int)))⟩]⟩),([1,0,1,1,0,0,1,1,0,0,1,0,1,1,1,1,1],⟨[5,10,11,13,14,15,39,40,41,56],[⟨.slot 5,5,.cells []⟩,⟨.slot 10,10,.cells []⟩,⟨.slot 11,11,(.larr 3 false 1 (.dat (.int .i64) ([]:List Int)))⟩]⟩),([1,1,1,1,0,0,1,1,0,0,1,0,1,1,1,1,1],⟨[5,10,11,13,39,40,41],[⟨.slot 5,5,.cells []⟩,⟨.slot 10,10,.cells []⟩,⟨.slot 11,11,(.larr 3 false 1 (.dat (.int .i64) ([]:List Int)))⟩]⟩),([1,1,1,0,0,1,0,1,1,1,1,1],⟨[5,10,11,39,40,41],[⟨.slot 5,5,.cells []⟩,⟨.slot 10,10,.cells []⟩,⟨.slot 11,11,(.larr 3 false 1 (.dat (.int .i64) ([]:List Int)))⟩]⟩)] []
def zek(F f1:Nat)(ids:List Int)(l:List zq)(vi1 vi2:Int)(vm3:List (Int×Int)):=zH zbc Tryz.f19 F [] [1,1,0,1,0] f1 [(1,pL 1 (.int .i64) ids),(5,.mref 5),(17,pL 8 zE l),(18,pI vi1),(19,pI vi2)] [(5,.mp (.int .i64) vm3)]
def znq(F f1:Nat)(ids:List Int)(l:List zq)(vi1 vi2:Int)(vm3:List (Int×Int))(vi4 vi5:Int)(vs6:List UInt8)(vi7:Int)(vl8:List (List UInt8))(vl9:List (Int×Int))(vi10 vi11:Int):=zx zbc Tryz.f19 F [f1] [1,1,0,1,0,0,1,1,0,0,1] [(1,pL 1 (.int .i64) ids),(5,.mref 5),(7,.ref 7 0),(17,pL 8 zE l),(18,pI vi1),(19,pI vi2)] [(5,.mp (.int .i64) vm3),(7,.cells [pI vi4,pI vi5,pS vs6,pI vi7,pL 1 .str vl8,pL 2 (.pair (.int .i64) (.int .i64)) vl9,pI vi10,pI vi11])]
def zgN(F f1:Nat)(ids:List Int)(l:List zq)(vi1 vi2:Int)(vm12:List (Int×Int)):=zx zbc Tryz.f19 F [f1] [1,1,0,1,0,0,1,1,1] [(1,pL 1 (.int .i64) ids),(5,.mref 5),(17,pL 8 zE l),(18,pI vi1),(19,pI vi2)] [(5,.mp (.int .i64) vm12)]
def zej(F f2:Nat)(ids:List Int)(vi13 vi14:Int)(vm15:List (Int×Int))(vm16:List (Int×Bool))(vl17:List Int):=zH zbc Tryz.f19 F [] [1,1,1,1,1,0,1,0] f2 [(5,.mref 5),(10,.mref 10),(11,.arr 11),(39,pL 1 (.int .i64) ids),(40,pI vi13),(41,pI vi14)] [(5,.mp (.int .i64) vm15),(10,.mp .bool vm16),(11,.larr 3 false 1 (.dat (.int .i64) vl17))]
def znp(F f2:Nat)(vi18 vi19:Int)(vc20:Bool)(ids:List Int)(vi13 vi14:Int)(vc21:Bool)(vm15:List (Int×Int))(vm16:List (Int×Bool))(vl17:List Int):=zx zbc Tryz.f19 F [f2] [1,1,1,1,1,0,1,0,0,1,1,0,0,1,1,0,1] [(5,.mref 5),(10,.mref 10),(11,.arr 11),(13,pI vi18),(14,pI vi19),(15,pB vc20),(39,pL 1 (.int .i64) ids),(40,pI vi13),(41,pI vi14),(56,pB vc21)] [(5,.mp (.int .i64) vm15),(10,.mp .bool vm16),(11,.larr 3 false 1 (.dat (.int .i64) vl17))]
def zgK(F f2:Nat)(ids:List Int)(vi13 vi14:Int)(vm22:List (Int×Int))(vm23:List (Int×Bool))(vl24:List Int):=zx zbc Tryz.f19 F [f2] [1,1,1,1,1,0,1,0,0,1,1,1] [(5,.mref 5),(10,.mref 10),(11,.arr 11),(39,pL 1 (.int .i64) ids),(40,pI vi13),(41,pI vi14)] [(5,.mp (.int .i64) vm22),(10,.mp .bool vm23),(11,.larr 3 false 1 (.dat (.int .i64) vl24))]
def zei(F f2:Nat)(vi18:Int)(ids:List Int)(vi13 vi14:Int)(vm25:List (Int×Int))(vm26:List (Int×Bool))(vl27:List Int):=zx zbc Tryz.f19 F [f2] [1,1,1,1,1,0,1,0,0,1,1,0,0,1,1,1,1] [(5,.mref 5),(10,.mref 10),(11,.arr 11),(13,pI vi18),(39,pL 1 (.int .i64) ids),(40,pI vi13),(41,pI vi14)] [(5,.mp (.int .i64) vm25),(10,.mp .bool vm26),(11,.larr 3 false 1 (.dat (.int .i64) vl27))]
def zma(F:Nat)(l:List zq)(ids:List Int):=zF zbc Tryz.f19 F [pL 8 zE l,pL 1 (.int .i64) ids]
theorem zgO(F f1 ids l vi1 vi2 vm3):letI A:=l.getD vi2.toNat ((0:Int),((0:Int),([],((0:Int),([],([],((0:Int),(0:Int))))))));zek F (f1+1) ids l vi1 vi2 vm3=cond (decide (vi2<vi1)) (ze (0<=vi2/\vi2<(l.length:Int)) (znq F f1 ids l vi1 vi2 vm3 A.1 A.2.1 A.2.2.1 A.2.2.2.1 A.2.2.2.2.1 A.2.2.2.2.2.1 A.2.2.2.2.2.2.1 A.2.2.2.2.2.2.2)) (zej F F ids (ids.length:Int) 0 vm3 ([]:List (Int×Bool)) ([]:List Int)):=by kernel_rfl
theorem zrn(F f1 ids l vi1 vi2 vm3 vi4 vi5 vs6 vi7 vl8 vl9 vi10 vi11):znq F f1 ids l vi1 vi2 vm3 vi4 vi5 vs6 vi7 vl8 vl9 vi10 vi11=cond (!(zX (e:=.int .i64) vm3 vi4)) (ze ((zX (e:=.int .i64) vm3 vi4)=false) (zgN F f1 ids l vi1 vi2 (vm3++[(vi4,vi5)]))) (zgN F f1 ids l vi1 vi2 vm3):=by kernel_rfl
theorem zgM(F f1 ids l vi1 vi2 vm12):zgN F f1 ids l vi1 vi2 vm12=ze (zh (vi2+1)) (zek F f1 ids l vi1 (vi2+1) vm12):=by kernel_rfl
theorem zgL(F f2 ids vi13 vi14 vm15 vm16 vl17):letI A:=ids.getD vi14.toNat (0:Int);zej F (f2+1) ids vi13 vi14 vm15 vm16 vl17=cond (decide (vi14<vi13)) (ze (0<=vi14/\vi14<(ids.length:Int)) (znp F f2 A (yE (e:=.int .i64) vm15 A) (zX (e:=.int .i64) vm15 A) ids vi13 vi14 ((zX (e:=.int .i64) vm15 A)&&(yE (e:=.bool) vm16 (yE (e:=.int .i64) vm15 A))) vm15 vm16 vl17)) (some (.p (.list 1 (.dat (.int .i64) vl17)),[])):=letI A:=ids.getD vi14.toNat (0:Int);Eq.trans (by kernel_rfl) (zj (zf (nI ((zX (e:=.int .i64) vm15 A)=true) (nI ((zX (e:=.int .i64) vm15 A)=true) (nI ((zX (e:=.int .i64) vm15 A)=true) rfl)))) rfl)
theorem zrm(F f2 vi18 vi19 vc20 ids vi13 vi14 vc21 vm15 vm16 vl17):znp F f2 vi18 vi19 vc20 ids vi13 vi14 vc21 vm15 vm16 vl17=cond vc21 (zgK F f2 ids vi13 vi14 vm15 vm16 vl17) (cond vc20 (ze ((zX (e:=.bool) vm16 vi19)=false) (zei F f2 vi18 ids vi13 vi14 vm15 (vm16++[(vi19,true)]) vl17)) (zei F f2 vi18 ids vi13 vi14 vm15 vm16 vl17)):=by kernel_rfl
theorem zgJ(F f2 ids vi13 vi14 vm22 vm23 vl24):zgK F f2 ids vi13 vi14 vm22 vm23 vl24=ze (zh (vi14+1)) (zej F f2 ids vi13 (vi14+1) vm22 vm23 vl24):=by kernel_rfl
theorem zrl(F f2 vi18 ids vi13 vi14 vm25 vm26 vl27):zei F f2 vi18 ids vi13 vi14 vm25 vm26 vl27=ze ((vl27.length+[vi18].length)*8<=140737488355328) (zgK F f2 ids vi13 vi14 vm25 vm26 (vl27++[vi18])):=by kernel_rfl
theorem zvU(F l ids):zma F l ids=zek F F ids l (l.length:Int) 0 ([]:List (Int×Int)):=by kernel_rfl
theorem zxI(F l ids r):IsP 19 (zma F l ids) [.p (.list 8 (.dat zE l)),.p (.list 1 (.dat (.int .i64) ids))] r:=zG zbc rfl trivial
theorem zKX(F:Nat)(ids:List Int)(thr:List (Int×Int))(hl:ids.length<=1000):∀ (r:List Int) (f2 i:Nat) (told:List (Int×Bool)) (acc:List Int),ids.drop i=r->i+r.length=ids.length->r.length<f2->acc.length<=i->(∀ p ∈ told,p.2=true)->
 zej F f2 ids (ids.length:Int) (i:Int) thr told acc=some (.p (.list 1 (.dat (.int .i64) (acc++zhU thr r told))),[])
 | [],f2,i,told,acc,hd,hi,hf,ha,ht=>by
  obtain⟨f2,rfl⟩:∃ k,f2=k+1:=⟨f2-1,by omega⟩
  have hi:i=ids.length:=by simpa using hi
  rw[zgL,zhU,List.append_nil]
  exact zg (decide_eq_false (by omega)) rfl
 | x::r,f2,i,told,acc,hd,hi,hf,ha,ht=>by
  obtain⟨f2,rfl⟩:∃ k,f2=k+1:=⟨f2-1,by omega⟩
  obtain⟨hg,hd2,hlt⟩:=yF hd (0:Int)
  rw[List.length_cons]at hi hf
  rw[zgL,Int.toNat_natCast,hg,zhU]
  refine zi (decide_eq_true (by omega)) (zd ⟨by omega,by omega⟩ ?_)
  rw[zrm]
  cases hc:(zX (e:=.int .i64) thr x&&yE (e:=.bool) told (yE (e:=.int .i64) thr x))with
  | true=>
   rw[if_pos rfl]
   refine zi rfl ?_
   rw[zgJ]
   refine zd (by unfold zh;omega) ?_
   rw[show((i:Int)+1)=((i+1:Nat):Int) by omega]
   exact zKX F ids thr hl r f2 (i+1) told acc hd2 (by omega) (by omega) (by omega) ht
  | false=>
   rw[if_neg (by simp)]
   refine zg rfl ?_
   have hend:∀ told':List (Int×Bool),(∀ p ∈ told',p.2=true)->zei F f2 x ids (ids.length:Int) (i:Int) thr told' acc=some (.p (.list 1 (.dat (.int .i64) (acc++x::zhU thr r told'))),[]):=fun told' ht'=>by
    rw[zrl]
    refine zd (by simp;omega) ?_
    rw[zgJ]
    refine zd (by unfold zh;omega) ?_
    rw[show((i:Int)+1)=((i+1:Nat):Int) by omega,zKX F ids thr hl r f2 (i+1) told' _ hd2 (by omega) (by omega) (by simp;omega) ht',List.append_assoc]
    rfl
   cases hh:zX (e:=.int .i64) thr x with
   | true=>
    rw[hh,Bool.true_and,zos ht]at hc
    rw[if_pos rfl]
    exact zi rfl (zd hc (hend _ fun p hp=>by
     rcases List.mem_append.1 hp with hp|hp
     .exact ht p hp
     .rw [List.mem_singleton.1 hp]))
   | false=>
    rw[if_neg (by simp)]
    exact zg rfl (hend _ ht)
theorem zKY(F:Nat)(l:List zq)(ids:List Int)(hF:1000<F)(h:zjQ l ids):∀ (r:List zq) (f1 i:Nat) (acc:List (Int×Int)),l.drop i=r->i+r.length=l.length->r.length<f1->
 zek F f1 ids l (l.length:Int) (i:Int) acc=some (.p (.list 1 (.dat (.int .i64) (zhU (zfY r acc) ids []))),[])
 | [],f1,i,acc,hd,hi,hf=>by
  obtain⟨f1,rfl⟩:∃ k,f1=k+1:=⟨f1-1,by omega⟩
  have hi:i=l.length:=by simpa using hi
  rw[zgO]
  exact zg (decide_eq_false (by omega)) (zKX F ids acc h.2 ids F 0 [] [] rfl (by simp) (by have:=h.2;omega) (by simp) (by simp))
 | m::r,f1,i,acc,hd,hi,hf=>by
  obtain⟨f1,rfl⟩:∃ k,f1=k+1:=⟨f1-1,by omega⟩
  obtain⟨hg,hd2,hlt⟩:=yF hd ((0:Int),((0:Int),(([]:List UInt8),((0:Int),(([]:List (List UInt8)),(([]:List (Int×Int)),((0:Int),(0:Int))))))))
  rw[List.length_cons]at hi hf
  have h1:=h.1
  rw[zgO,Int.toNat_natCast,hg,zfY]
  refine zi (decide_eq_true (by omega)) (zd ⟨by omega,by omega⟩ ?_)
  rw[zrn]
  cases hh:zX (e:=.int .i64) acc m.1 with
  | true=>
   rw[if_pos rfl]
   refine zg rfl ?_
   rw[zgM]
   refine zd (by unfold zh;omega) ?_
   rw[show((i:Int)+1)=((i+1:Nat):Int) by omega]
   exact zKY F l ids hF h r f1 (i+1) _ hd2 (by omega) (by omega)
  | false=>
   rw[if_neg (by simp)]
   refine zi rfl (zd rfl ?_)
   rw[zgM]
   refine zd (by unfold zh;omega) ?_
   rw[show((i:Int)+1)=((i+1:Nat):Int) by omega]
   exact zKY F l ids hF h r f1 (i+1) _ hd2 (by omega) (by omega)
theorem zxZ(l:List zq)(ids:List Int)(h:zjQ l ids):zma 1001 l ids=some (.p (.list 1 (.dat (.int .i64) (yW l ids))),[]):=by
 rw[zvU]
 exact zKY 1001 l ids (by omega) h l 1001 0 [] rfl (by simp) (by have:=h.1;omega)
def zgd:List AV->Option (AV×Option Prop)
 | [.p l,.p i]=>match zA zE l,zA (.int .i64) i with
  | some l,some i=>some (.p (.list 1 (.dat (.int .i64) (yW l i))),some (zjQ l i))
  | _,_=>none
 | _=>none
theorem zxj:zn Tryz.prog 19 zgd:=by
 intro zs r ok he hok
 unfold zgd at he
 split at he
 .rename_i l' i'
  split at he
  .rename_i l i hl hi
   cases he
   exact⟨by kernel_rfl,FnP.lq (ys:=[.p (.list 8 (.dat zE l)),.p (.list 1 (.dat (.int .i64) i))]) ⟨Lq.list (a:=zE) hl,Lq.list (a:=.int .i64) hi,trivial⟩ (zxI 1001 l i _ fun _=>zxZ l i hok)⟩
  .cases he
 .cases he
end Go.Proofs.YtampckbjinodgaaGreatDoor
