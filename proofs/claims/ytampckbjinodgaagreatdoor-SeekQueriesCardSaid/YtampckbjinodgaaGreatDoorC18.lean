/-
  Lifted functions, and facts about them.
-/
import Derived.Test.YtampckbjinodgaaGreatDoorRows
import Derived.Test.YtampckbjinodgaaGreatDoorC01
import Derived.Test.YtampckbjinodgaaGreatDoorAmC
import Derived.Test.YtampckbjinodgaaGreatDoorC17
set_option linter.unusedVariables false
noncomputable section
namespace Go.Proofs.YtampckbjinodgaaGreatDoor
open Go Go.Am
theorem LqG.cloF{fn:Fn}{xs ys:List AV}(h:zye xs ys):LqG (.clo fn xs []) (.clo fn ys []):=by
 intro γ M v hv
 cases hv with|clo _ _ _ vf vc hf hc h1 h2=>
 obtain⟨hl,hg⟩:=h.get
 exact .clo _ _ _ _ _ (by rw[hf,hl]) hc (fun i hi=>hg i (by rw[hl];exact hi) _ _ _ (h1 i (by rw[hl];exact hi))) h2
theorem zlK{x:PV}{o:List (Elt zM)}(h:zA zM x=some o):LqG (.clo (.func 30) [.p x] []) (.clo (.func 30) [.p (.list 3 (.dat zM o))] []):=
 LqG.cloF ⟨LqG.p (Lq.list (a:=zM) h),trivial⟩
def zug:yM:=⟨[false,true,true,true],fun args ib=>match args,ib with
 | [.arr 70000,.p (.int .i64 x),.p (.int .i64 y),.clo (.func 30) [.p ol] []],[(70000,.larr 64 true 3 R)]=>match zA zM ol,zA zt (.list 3 R)with
  | some o,some l=>some (([70000],.tup []),([(70000,.larr 64 true 3 (.dat zt (zaV o x y l)))],some (zDC o x y l)))
  | _,_=>none
 | _,_=>none⟩
theorem zOu:zS Tryz.prog 82 zug:=by
 intro args ib kept r zZ ok he hok
 simp only[zug]at he
 split at he
 .rename_i x y ol R
  split at he
  .rename_i o l ho hl
   cases he
   obtain⟨rfl,_⟩:=zaj hl
   obtain⟨trivial,_⟩:=id hok
   exact⟨by kernel_rfl,FnR.lq (ys:=[.arr 70000,.p (.int .i64 x),.p (.int .i64 y),.clo (.func 30) [.p (.list 3 (.dat zM o))] []]) ⟨LqG.refl _,LqG.refl _,LqG.refl _,zlK ho,trivial⟩
    (zPm 2003 x y o l _ _ fun _=>zOJ o x y l hok)⟩
  .cases he
 .cases he
def zmn(x y n:Int)(l:List zk):List zk:=l.take x.toNat++((l.drop y.toNat).take n.toNat++((l.take y.toNat).drop (x+n).toNat++((l.drop x.toNat).take n.toNat++l.drop (y+n).toNat)))
abbrev zla(x y n:Int)(l:List zk):Prop:=0<=x/\0<=n/\x+n<=y/\y+n<=l.length/\l.length<=1000
theorem zaU{α:Type}{a b:List α}{n:Nat}(h:n=a.length):(a++b).take n=a:=List.take_left' h.symm
theorem za1{α:Type}{a b:List α}{n:Nat}(h:n=a.length):(a++b).drop n=b:=List.drop_left' h.symm
theorem zgT(P U M V Q:List zk)(x y n:Int)(hx:x=P.length)(hy:y=(P.length+(U.length+M.length):Nat))(hn:n=U.length)(hv:V.length=U.length):
 zmn x y n (P++(U++(M++(V++Q))))=P++(V++(M++(U++Q))):=by
 subst hx;subst hy;subst hn
 unfold zmn
 have t1:((P.length:Int)+(U.length:Int)).toNat=P.length+U.length:=by omega
 have t2:(((P.length+(U.length+M.length):Nat):Int)+(U.length:Int)).toNat=P.length+(U.length+M.length)+U.length:=by omega
 rw[Int.toNat_natCast,Int.toNat_natCast,Int.toNat_natCast,t1,t2]
 have e:P++(U++(M++(V++Q)))=(P++(U++M))++(V++Q):=by simp
 have d1:(P++(U++(M++(V++Q)))).drop (P.length+(U.length+M.length))=V++Q:=by rw[e];exact za1 (by simp)
 have d2:(P++(U++(M++(V++Q)))).take (P.length+(U.length+M.length))=P++(U++M):=by rw[e];exact zaU (by simp)
 have d3:(P++(U++M)).drop (P.length+U.length)=M:=by rw[<-List.append_assoc];exact za1 (by simp)
 have d4:(P++(U++(M++(V++Q)))).drop (P.length+(U.length+M.length)+U.length)=Q:=by
  rw[show P++(U++(M++(V++Q)))=(P++(U++(M++V)))++Q by simp];exact za1 (by simp;omega)
 rw[d1,d2,d3,d4,zaU rfl,za1 rfl,zaU hv.symm,zaU rfl]
theorem zzO(l:List zk)(x y n:Int)(h:zla x y n l):∃ P U M V Q,l=P++(U++(M++(V++Q)))/\x=P.length/\y=(P.length+(U.length+M.length):Nat)/\n=U.length/\V.length=U.length:=by
 obtain⟨h1,h2,h3,h4,h5⟩:=h
 obtain⟨P,U,R,rfl,hP,hU⟩:=zg0 l x.toNat (x+n).toNat (by omega) (by omega)
 have hl:(P++(U++R)).length=P.length+(U.length+R.length):=by simp
 rw[hl]at h4 h5
 obtain⟨M,V,Q,rfl,hM,hV⟩:=zg0 R (y-(x+n)).toNat (y-x).toNat (by omega) (by omega)
 exact⟨P,U,M,V,Q,rfl,by omega,by omega,by omega,by omega⟩
def zQM:Code:=yw Tryz.f146
def zEc:=mkG [] [] 38 [70000] [([0,1],⟨[0,1,2,3,10],[⟨.fix 70000,70000,.cells []⟩]⟩),([1,1,0,0,1],⟨[0,1,2,3,10],[⟨.fix 70000,70000,.cells []⟩]⟩)] []
def zQE:K:=kR Tryz.prog [70000] ⟨[],[⟨.fix 70000,70000,.cells []⟩]⟩ [70000] Tryz.f146.results.toList
def zn9(F f1:Nat)(x y n vi1:Int)(vl2:List zk):=zcI zEc zQM zQE F [] [1,0] f1 [(0,.arr 70000),(1,pI x),(2,pI y),(3,pI n),(10,pI vi1)] [(70000,.larr 64 true 3 (.dat zt vl2))]
def zEG(F f1:Nat)(x y n vi1:Int)(vl3:List zk):=zcv zEc zQM zQE F [f1] [1,0,0,1,1] [(0,.arr 70000),(1,pI x),(2,pI y),(3,pI n),(10,pI vi1)] [(70000,.larr 64 true 3 (.dat zt vl3))]
def zL6(F:Nat)(x y n:Int)(o:List (Elt zM))(l:List zk):=zam zEc Tryz.f146 ⟨[],[⟨.fix 70000,70000,.cells []⟩]⟩ [70000] F [.arr 70000,pI x,pI y,pI n,.clo (.func 30) [pL 3 (.pair (.int .i64) (.pair .str .bool)) o] []] [(70000,.larr 64 true 3 (.dat zt l))]
theorem zqI(F f1 x y n vi1 vl2):letI D:=y+vi1;letI A:=vl2.getD D.toNat ((((0:Int),((0:Int),([],((0:Int),([],([],((0:Int),(0:Int)))))))),([],[])),([],[]));letI E:=x+vi1;letI B:=vl2.getD E.toNat ((((0:Int),((0:Int),([],((0:Int),([],([],((0:Int),(0:Int)))))))),([],[])),([],[]));letI C:=vl2.set E.toNat (A.1,(A.2.1,A.2.2));letI H:=(vl2.length:Int);letI I:=E.toNat<vl2.length;letI J:=0<=E/\E<H;zn9 F (f1+1) x y n vi1 vl2=cond (decide (vi1<n)) (ze (zh E) (ze (zh D) (ze (zh D) (ze (0<=D/\D<H) (ze (D.toNat<vl2.length) (ze (zh E) (ze J (ze I (ze J (ze I (ze (0<=D/\D<(C.length:Int)) (ze (D.toNat<C.length) (zEG F f1 x y n vi1 (C.set D.toNat (B.1,(B.2.1,B.2.2)))))))))))))))) (some (.tup [],[(70000,.larr 64 true 3 (.dat zt vl2))])):=by kernel_rfl
theorem zCL(F f1 x y n vi1 vl3):zEG F f1 x y n vi1 vl3=ze (zh (vi1+1)) (zn9 F f1 x y n (vi1+1) vl3):=by kernel_rfl
theorem zL5(F x y n o l):zL6 F x y n o l=zn9 F F x y n 0 l:=by kernel_rfl
theorem zO2(F x y n o l r os):IsR 146 (zL6 F x y n o l) [.arr 70000,.p (.int .i64 x),.p (.int .i64 y),.p (.int .i64 n),.clo (.func 30) [.p (.list 3 (.dat (.pair (.int .i64) (.pair .str .bool)) o))] []] [(70000,.larr 64 true 3 (.dat zt l))] [70000] r os:=zb9 zEc ⟨[],[⟨.fix 70000,70000,.cells []⟩]⟩ [70000] rfl trivial
theorem zQx(F:Nat)(P M Q:List zk)(n:Int):∀ (U2 V2:List zk) (f1:Nat) (U1 V1:List zk),U2.length<f1->V2.length=U2.length->V1.length=U1.length->n=(U1.length+U2.length:Nat)->
 P.length+(V1.length+(U2.length+(M.length+(U1.length+(V2.length+Q.length)))))<=1000->
 zn9 F f1 (P.length:Int) ((P.length+(U1.length+U2.length+M.length):Nat):Int) n (U1.length:Int) (P++(V1++(U2++(M++(U1++(V2++Q))))))=
  some (.tup [],[(70000,.larr 64 true 3 (.dat zt (P++(V1++(V2++(M++(U1++(U2++Q))))))))])
 | [],V2,f1,U1,V1,hf,hv,hu,hn,hl=>by
  obtain⟨f1,rfl⟩:∃ k,f1=k+1:=⟨f1-1,by omega⟩
  have:V2=[]:=List.eq_nil_of_length_eq_zero hv
  subst this
  rw[zqI]
  exact zg (decide_eq_false (by rw[hn];simp)) rfl
 | u::U2,[],f1,U1,V1,hf,hv,hu,hn,hl=>by simp at hv
 | u::U2,v::V2,f1,U1,V1,hf,hv,hu,hn,hl=>by
  obtain⟨f1,rfl⟩:∃ k,f1=k+1:=⟨f1-1,by omega⟩
  simp only[List.length_cons]at hf hv hn hl
  have e0:P++(V1++(u::U2++(M++(U1++(v::V2++Q)))))=(P++V1)++u::(U2++(M++(U1++(v::(V2++Q))))):=by simp
  have e1:P++(V1++(u::U2++(M++(U1++(v::V2++Q)))))=(P++(V1++(u::U2++(M++U1))))++v::(V2++Q):=by simp
  have el:(P++(V1++(u::U2++(M++(U1++(v::V2++Q)))))).length=P.length+(V1.length+(U2.length+1+(M.length+(U1.length+(V2.length+1+Q.length))))):=by simp;omega
  have tx:((P.length:Int)+(U1.length:Int)).toNat=P.length+U1.length:=by omega
  have ty:(((P.length+(U1.length+(u::U2).length+M.length):Nat):Int)+(U1.length:Int)).toNat=P.length+(U1.length+(U2.length+1)+M.length)+U1.length:=by simp;omega
  have g0:∀ d,(P++(V1++(u::U2++(M++(U1++(v::V2++Q)))))).getD (P.length+U1.length) d=u:=fun d=>by rw[e0];exact zaN (by simp;omega) d
  have g1:∀ d,(P++(V1++(u::U2++(M++(U1++(v::V2++Q)))))).getD (P.length+(U1.length+(U2.length+1)+M.length)+U1.length) d=v:=fun d=>by rw[e1];exact zaN (by simp;omega) d
  rw[zqI,tx,ty]
  simp only[g0,g1,Prod.eta,List.length_set]
  refine zi (decide_eq_true (by rw[hn];omega)) ?_
  have hy:((P.length+(U1.length+(u::U2).length+M.length):Nat):Int)=((P.length+(U1.length+(U2.length+1)+M.length):Nat):Int):=by simp
  rw[hy]
  iterate 3 refine zd (by unfold zh;omega) ?_
  refine zd (by rw[el];omega) (zd (by rw[el];omega) (zd (by unfold zh;omega) ?_))
  iterate 3 refine zd (by rw[el];omega) (zd (by rw[el];omega) ?_)
  rw[zCL]
  refine zd (by unfold zh;omega) ?_
  have es:((P++(V1++(u::U2++(M++(U1++(v::V2++Q)))))).set (P.length+U1.length) v).set (P.length+(U1.length+(U2.length+1)+M.length)+U1.length) u=P++((V1++[v])++(U2++(M++((U1++[u])++(V2++Q))))):=by
   rw[e0,zcs (by simp;omega),show(P++V1)++v::(U2++(M++(U1++(v::(V2++Q)))))=(P++(V1++(v::U2++(M++U1))))++v::(V2++Q) by simp,zcs (by simp;omega)]
   simp
  have ih:=zQx F P M Q n U2 V2 f1 (U1++[u]) (V1++[v]) (by omega) (by omega) (by simp;omega) (by rw[hn];simp;omega) (by simp;omega)
  rw[es]
  have e3:((P.length+((U1++[u]).length+U2.length+M.length):Nat):Int)=((P.length+(U1.length+(U2.length+1)+M.length):Nat):Int):=by simp;omega
  have e4:(((U1++[u]).length:Nat):Int)=(U1.length:Int)+1:=by simp
  rw[e3,e4]at ih
  rw[ih]
  simp
theorem zNv(x y n:Int)(o:List (Elt zM))(l:List zk)(h:zla x y n l):zL6 1001 x y n o l=some (.tup [],[(70000,.larr 64 true 3 (.dat zt (zmn x y n l)))]):=by
 obtain⟨P,U,M,V,Q,rfl,hx,hy,hn,hv⟩:=zzO l x y n h
 have hl:=h.2.2.2.2
 simp only[List.length_append]at hl
 rw[zL5,zgT P U M V Q x y n hx hy hn hv]
 have:=zQx 1001 P M Q n U V 1001 [] [] (by omega) hv rfl (by rw[hn];simp) (by simp;omega)
 rw[hx,hy]
 simpa using this
def ztZ:yM:=⟨[false,true,true,true,true],fun args ib=>match args,ib with
 | [.arr 70000,.p (.int .i64 x),.p (.int .i64 y),.p (.int .i64 n),.clo (.func 30) [.p ol] []],[(70000,.larr 64 true 3 R)]=>match zA zM ol,zA zt (.list 3 R)with
  | some _,some l=>some (([70000],.tup []),([(70000,.larr 64 true 3 (.dat zt (zmn x y n l)))],some (zla x y n l)))
  | _,_=>none
 | _,_=>none⟩
theorem zOc:zS Tryz.prog 146 ztZ:=by
 intro args ib kept r zZ ok he hok
 simp only[ztZ]at he
 split at he
 .rename_i x y n ol R
  split at he
  .rename_i o l ho hl
   cases he
   obtain⟨rfl,_⟩:=zaj hl
   exact⟨by kernel_rfl,FnR.lq (ys:=[.arr 70000,.p (.int .i64 x),.p (.int .i64 y),.p (.int .i64 n),.clo (.func 30) [.p (.list 3 (.dat zM o))] []]) ⟨LqG.refl _,LqG.refl _,LqG.refl _,LqG.refl _,zlK ho,trivial⟩
    (zO2 1001 x y n o l _ _ fun _=>zNv x y n o l hok)⟩
  .cases he
 .cases he
def zz8(a m b:Int)(l:List zk):List zk:=l.take a.toNat++((l.take b.toNat).drop m.toNat++((l.take m.toNat).drop a.toNat++l.drop b.toNat))
abbrev zsA(a m b:Int)(l:List zk):Prop:=0<=a/\a<m/\m<b/\b<=l.length/\l.length<=1000
theorem zwX(P A B Q:List zk)(a m b:Int)(ha:a=P.length)(hm:m=(P.length+A.length:Nat))(hb:b=(P.length+A.length+B.length:Nat)):zz8 a m b (P++(A++(B++Q)))=P++(B++(A++Q)):=by
 subst ha;subst hm;subst hb
 unfold zz8
 rw[Int.toNat_natCast,Int.toNat_natCast,Int.toNat_natCast]
 have e1:(P++(A++(B++Q))).take (P.length+A.length+B.length)=(P++A)++B:=by rw[show P++(A++(B++Q))=((P++A)++B)++Q by simp];exact zaU (by simp;omega)
 have e2:(P++(A++(B++Q))).drop (P.length+A.length+B.length)=Q:=by rw[show P++(A++(B++Q))=((P++A)++B)++Q by simp];exact za1 (by simp;omega)
 have e3:(P++(A++(B++Q))).take (P.length+A.length)=P++A:=by rw[show P++(A++(B++Q))=(P++A)++(B++Q) by simp];exact zaU (by simp)
 rw[e1,e2,e3,za1 (by simp),za1 rfl,zaU rfl]
def zTT:Code:=yw Tryz.f118
def zLt:=mkG [] [(146,ztZ)] 58 [70000] [([0,0,1,1],⟨[0,2,4,10,11],[⟨.fix 70000,70000,.cells []⟩]⟩)] [([0,0,1,0,1,0,0,0,1,1],[7]),([0,1,1,0,1,0,0,0,1,1],[11]),([1,1,1],[7])]
def zTD:K:=kR Tryz.prog [70000] ⟨[],[⟨.fix 70000,70000,.cells []⟩]⟩ [70000] Tryz.f118.results.toList
def zkn(F f1:Nat)(y:Int)(vl1:List (Int×List UInt8×Bool))(vi2 vi3:Int)(vl4:List zk):=zcI zLt zTT zTD F [] [1,1,0,0] f1 [(0,.arr 70000),(2,pI y),(4,.clo (.func 30) [pL 3 (.pair (.int .i64) (.pair .str .bool)) vl1] []),(10,pI vi2),(11,pI vi3)] [(70000,.larr 64 true 3 (.dat zt vl4))]
def zMg(F:Nat)(x y n:Int)(o:List (Elt zM))(l:List zk):=zam zLt Tryz.f118 ⟨[],[⟨.fix 70000,70000,.cells []⟩]⟩ [70000] F [.arr 70000,pI x,pI y,pI n,.clo (.func 30) [pL 3 (.pair (.int .i64) (.pair .str .bool)) o] []] [(70000,.larr 64 true 3 (.dat zt l))]
theorem zCR(F f1 y vl1 vi2 vi3 vl4):letI A:=y-vi2;letI B:=(y+vi3)-vi2;letI C:=zh A;zkn F (f1+1) y vl1 vi2 vi3 vl4=cond (vi2 != vi3) (cond (decide (vi2>vi3)) (ze C (ze (zla A y vi3 vl4) (ze (zh (vi2-vi3)) (zkn F f1 y vl1 (vi2-vi3) vi3 (zmn A y vi3 vl4))))) (ze C (ze (zh (y+vi3)) (ze (zh B) (ze (zla A B vi2 vl4) (ze (zh (vi3-vi2)) (zkn F f1 y vl1 vi2 (vi3-vi2) (zmn A B vi2 vl4)))))))) (ze C (ze (zla A y vi2 vl4) (some (.tup [],[(70000,.larr 64 true 3 (.dat zt (zmn A y vi2 vl4)))])))):=by kernel_rfl
theorem zMf(F x y n o l):zMg F x y n o l=ze (zh (y-x)) (ze (zh (n-y)) (zkn F F y o (y-x) (n-y) l)):=by kernel_rfl
theorem zO8(F x y n o l r os):IsR 118 (zMg F x y n o l) [.arr 70000,.p (.int .i64 x),.p (.int .i64 y),.p (.int .i64 n),.clo (.func 30) [.p (.list 3 (.dat (.pair (.int .i64) (.pair .str .bool)) o))] []] [(70000,.larr 64 true 3 (.dat zt l))] [70000] r os:=zb9 zLt ⟨[],[⟨.fix 70000,70000,.cells []⟩]⟩ [70000] rfl trivial (hr:=⟨zOc,trivial⟩)
theorem zTu(F:Nat)(o:List (Elt zM))(m:Int):∀ (f1:Nat) (P A B Q:List zk),A.length+B.length<f1->0<A.length->0<B.length->m=(P.length+A.length:Nat)->P.length+(A.length+(B.length+Q.length))<=1000->
 zkn F f1 m o (A.length:Int) (B.length:Int) (P++(A++(B++Q)))=some (.tup [],[(70000,.larr 64 true 3 (.dat zt (P++(B++(A++Q)))))]):=by
 intro f1
 induction f1 with
 | zero=>intro P A B Q hf;omega
 | succ f1 ih=>
  intro P A B Q hf ha hb hm hl
  have el:((P++(A++(B++Q))).length:Int)=P.length+(A.length+(B.length+Q.length)):=by simp
  have el':(P++(A++(B++Q))).length=P.length+(A.length+(B.length+Q.length)):=by simp
  rw[zCR]
  by_cases hc:A.length=B.length
  .refine zg (by rw[bne_eq_false_iff_eq];omega) (zd (by unfold zh;omega) (zd ⟨by omega,by omega,by omega,by rw[el];omega,by rw[el'];omega⟩ ?_))
   rw[show P++(A++(B++Q))=P++(A++([]++(B++Q))) by simp,zgT P A [] B Q _ _ _ (by omega) (by simp;omega) rfl hc.symm]
   simp
  .refine zi (bne_iff_ne.2 (by omega)) ?_
   by_cases hg:B.length<A.length
   .refine zi (decide_eq_true (by omega)) (zd (by unfold zh;omega) (zd ⟨by omega,by omega,by omega,by rw[el];omega,by rw[el'];omega⟩ (zd (by unfold zh;omega) ?_)))
    obtain⟨A1,A2,rfl,h1⟩:∃ A1 A2,A=A1++A2/\A1.length=B.length:=⟨A.take B.length,A.drop B.length,by simp,by rw[List.length_take];omega⟩
    rw[List.length_append]at hf hl hm hg
    rw[show P++(A1++A2++(B++Q))=P++(A1++(A2++(B++Q))) by simp,zgT P A1 A2 B Q _ _ _ (by simp;omega) (by omega) (by omega) h1.symm,
     show P++(B++(A2++(A1++Q)))=(P++B)++(A2++(A1++Q)) by simp,show(((A1++A2).length:Nat):Int)-(B.length:Int)=(A2.length:Int) by simp;omega,show(B.length:Int)=(A1.length:Int) by omega]
    rw[ih (P++B) A2 A1 Q (by omega) (by omega) (by omega) (by simp;omega) (by simp;omega)]
    simp
   .refine zg (decide_eq_false (by omega)) (zd (by unfold zh;omega) (zd (by unfold zh;omega) (zd (by unfold zh;omega) (zd ⟨by omega,by omega,by omega,by rw[el];omega,by rw[el'];omega⟩ (zd (by unfold zh;omega) ?_)))))
    obtain⟨B1,B2,rfl,h1⟩:∃ B1 B2,B=B1++B2/\B2.length=A.length:=⟨B.take (B.length-A.length),B.drop (B.length-A.length),by simp,by rw[List.length_drop];omega⟩
    rw[List.length_append]at hf hl hb hc hg
    rw[show P++(A++(B1++B2++Q))=P++(A++(B1++(B2++Q))) by simp,zgT P A B1 B2 Q _ _ _ (by omega) (by simp;omega) rfl h1,
     show P++(B2++(B1++(A++Q)))=P++(B2++(B1++(A++Q))) from rfl,show(((B1++B2).length:Nat):Int)-(A.length:Int)=(B1.length:Int) by simp;omega,show(A.length:Int)=(B2.length:Int) by omega]
    rw[ih P B2 B1 (A++Q) (by omega) (by omega) (by omega) (by omega) (by simp;omega)]
    simp
theorem zsB(l:List zk)(a m b:Int)(h:zsA a m b l):∃ P A B Q,l=P++(A++(B++Q))/\a=P.length/\m=(P.length+A.length:Nat)/\b=(P.length+A.length+B.length:Nat):=by
 obtain⟨h1,h2,h3,h4,h5⟩:=h
 obtain⟨P,A,R,rfl,hP,hA⟩:=zg0 l a.toNat m.toNat (by omega) (by omega)
 have hl:(P++(A++R)).length=P.length+(A.length+R.length):=by simp
 rw[hl]at h4
 exact⟨P,A,R.take (b-m).toNat,R.drop (b-m).toNat,by simp,by omega,by omega,by rw[List.length_take];omega⟩
theorem zNM(a m b:Int)(o:List (Elt zM))(l:List zk)(h:zsA a m b l):zMg 1001 a m b o l=some (.tup [],[(70000,.larr 64 true 3 (.dat zt (zz8 a m b l)))]):=by
 obtain⟨P,A,B,Q,rfl,ha,hm,hb⟩:=zsB l a m b h
 obtain⟨h1,h2,h3,h4,h5⟩:=h
 simp only[List.length_append]at h5
 rw[zMf,zwX P A B Q a m b ha hm hb]
 refine zd (by unfold zh;omega) (zd (by unfold zh;omega) ?_)
 rw[show m-a=(A.length:Int) by omega,show b-m=(B.length:Int) by omega]
 exact zTu 1001 o m 1001 P A B Q (by omega) (by omega) (by omega) hm (by omega)
def zt5:yM:=⟨[false,true,true,true,true],fun args ib=>match args,ib with
 | [.arr 70000,.p (.int .i64 x),.p (.int .i64 y),.p (.int .i64 n),.clo (.func 30) [.p ol] []],[(70000,.larr 64 true 3 R)]=>match zA zM ol,zA zt (.list 3 R)with
  | some _,some l=>some (([70000],.tup []),([(70000,.larr 64 true 3 (.dat zt (zz8 x y n l)))],some (zsA x y n l)))
  | _,_=>none
 | _,_=>none⟩
theorem zOi:zS Tryz.prog 118 zt5:=by
 intro args ib kept r zZ ok he hok
 simp only[zt5]at he
 split at he
 .rename_i x y n ol R
  split at he
  .rename_i o l ho hl
   cases he
   obtain⟨rfl,_⟩:=zaj hl
   exact⟨by kernel_rfl,FnR.lq (ys:=[.arr 70000,.p (.int .i64 x),.p (.int .i64 y),.p (.int .i64 n),.clo (.func 30) [.p (.list 3 (.dat zM o))] []]) ⟨LqG.refl _,LqG.refl _,LqG.refl _,LqG.refl _,zlK ho,trivial⟩
    (zO8 1001 x y n o l _ _ fun _=>zNM x y n o l hok)⟩
  .cases he
 .cases he
abbrev dF:zk:=((((0:Int),((0:Int),(([]:List UInt8),((0:Int),(([]:List (List UInt8)),(([]:List (Int×Int)),((0:Int),(0:Int)))))))),(([]:List (List UInt8×List UInt8)),([]:List UInt8))),(([]:List UInt8),([]:List UInt8)))
theorem zjz(i j:Nat)(h:i+j<=4000):IntKind.i64.wrap ((IntKind.u64.wrap ((i:Int)+(j:Int))).fdiv 2)=(((i+j)/2:Nat):Int):=by
 have e1:IntKind.u64.wrap ((i:Int)+(j:Int))=(i:Int)+(j:Int):=zdS (by simp[IntKind.has,IntKind.min,IntKind.max,IntKind.signed,IntKind.bits];omega)
 have e2:((i:Int)+(j:Int)).fdiv 2=(((i+j)/2:Nat):Int):=by rw[Int.fdiv_eq_ediv_of_nonneg _ (by decide)];omega
 rw[e1,e2];exact zde (by omega) (by omega)
theorem zp6{α:Type}(B:Nat->Int->Int->α)(E:Int->α)(g:Nat->Bool)(lo hi:Nat)
 (step:∀ f i j:Nat,lo<=i->i<j->j<=hi->B (f+1) (i:Int) (j:Int)=cond (g ((i+j)/2)) (B f (((i+j)/2+1:Nat):Int) (j:Int)) (B f (i:Int) (((i+j)/2:Nat):Int)))
 (stop:∀ f i:Nat,lo<=i->i<=hi->B (f+1) (i:Int) (i:Int)=E (i:Int)) (mono:∀ u v,lo<=u->u<=v->v<hi->g v=true->g u=true):
 ∀ n f i j:Nat,j-i<=n->n<f->lo<=i->i<=j->j<=hi->(∀ h,lo<=h->h<i->g h=true)->(∀ h,j<=h->h<hi->g h=false)->
 ∃ s:Nat,lo<=s/\s<=hi/\B f (i:Int) (j:Int)=E (s:Int)/\(∀ h,lo<=h->h<s->g h=true)/\(∀ h,s<=h->h<hi->g h=false):=by
 intro n
 induction n with
 | zero=>
  intro f i j hn hf h1 h2 h3 ha hb
  obtain⟨f,rfl⟩:∃ k,f=k+1:=⟨f-1,by omega⟩
  have:j=i:=by omega
  subst this
  exact⟨j,h1,h3,stop f j h1 h3,ha,hb⟩
 | succ n ih=>
  intro f i j hn hf h1 h2 h3 ha hb
  obtain⟨f,rfl⟩:∃ k,f=k+1:=⟨f-1,by omega⟩
  by_cases hij:i=j
  .subst hij
   exact⟨i,h1,h3,stop f i h1 h3,ha,hb⟩
  .rw [step f i j h1 (by omega) h3]
   cases hg:g ((i+j)/2)with
   | true=>exact ih f ((i+j)/2+1) j (by omega) (by omega) (by omega) (by omega) h3 (fun h q1 q2=>mono h ((i+j)/2) q1 (by omega) (by omega) hg) hb
   | false=>exact ih f i ((i+j)/2) (by omega) (by omega) h1 (by omega) (by omega) ha (fun h q1 q2=>by
    cases hh:g h with
    | false=>rfl
    | true=>rw[mono ((i+j)/2) h (by omega) q1 q2 hh]at hg;cases hg)
theorem zuN{P W Q:List zk}{u:Nat}(h1:P.length<=u)(h2:u-P.length<W.length)(d:zk):(P++(W++Q)).getD u d=W[u-P.length]:=by
 rw[List.getD_eq_getElem?_getD,List.getElem?_append_right h1,List.getElem?_append_left h2,List.getElem?_eq_getElem h2];rfl
theorem zdU{R:zk->zk->Prop}{P W Q:List zk}(hW:W.Pairwise R){u v:Nat}(h1:P.length<=u)(h2:u<v)(h3:v<P.length+W.length)(d:zk):R ((P++(W++Q)).getD u d) ((P++(W++Q)).getD v d):=by
 rw[zuN h1 (by omega),zuN (by omega) (by omega)]
 exact List.pairwise_iff_getElem.1 hW _ _ (by omega) (by omega) (by omega)
theorem zd0{P W Q:List zk}{x:zk}(hx:x ∈ W):∃ u,P.length<=u/\u<P.length+W.length/\∀ d,(P++(W++Q)).getD u d=x:=by
 obtain⟨i,hi,rfl⟩:=List.getElem_of_mem hx
 refine⟨P.length+i,by omega,by omega,fun d=>?_⟩
 rw[zuN (by omega) (by omega)]
 congr 1;omega
theorem zOO{l:List zk}(h:zes l){u v:Nat}(hu:u<l.length)(hv:v<l.length)(n:u≠v)(d:zk):idF (l.getD u d)≠idF (l.getD v d):=by
 rw[List.getD_eq_getElem?_getD,List.getD_eq_getElem?_getD,List.getElem?_eq_getElem hu,List.getElem?_eq_getElem hv]
 have:=List.pairwise_iff_getElem.1 h
 rcases Nat.lt_or_gt_of_ne n with q|q
 .exact this u v hu hv q
 .exact fun e=>this v u hv hu q e.symm
def zRu(o:List (Elt zM))(a b:Int)(l:List zk):Prop:=((l.take b.toNat).drop a.toNat).Pairwise (LtF o)
theorem zco(o:List (Elt zM))(P W Q:List zk)(a b:Int)(ha:a=P.length)(hb:b=(P.length+W.length:Nat)):zRu o a b (P++(W++Q))↔W.Pairwise (LtF o):=by
 subst ha;subst hb
 show(((P++(W++Q)).take _).drop _).Pairwise _↔_
 rw[Int.toNat_natCast,Int.toNat_natCast,<-List.append_assoc,zaU (by simp),za1 rfl]
abbrev zsn(k:Nat)(o:List (Elt zM))(a m b:Int)(l:List zk):Prop:=zh8 o/\0<=a/\a<m/\m<b/\b<=l.length/\l.length<=1000/\(b-a).toNat<=2^k/\zes l/\zRu o a m l/\zRu o m b l
def zgV(k:Nat):yM:=⟨[false,true,true,true,true],fun args ib=>match args,ib with
 | [.arr 70000,.p (.int .i64 x),.p (.int .i64 y),.p (.int .i64 n),.clo (.func 30) [.p ol] []],[(70000,.larr 64 true 3 R)]=>match zA zM ol,zA zt (.list 3 R)with
  | some o,some l=>some (([70000],.tup []),([(70000,.larr 64 true 3 (.dat zt (zaV o x n l)))],some (zsn k o x y n l)))
  | _,_=>none
 | _,_=>none⟩
def zeM:Code:=yw Tryz.f83
def zdJ(k:Nat):=mkG [(30,zjc)] [(83,zgV k),(118,zt5)] 220 [70000] [([0,0,1,1,0,1,0],⟨[0,1,4,10,11],[⟨.fix 70000,70000,.cells []⟩]⟩),([1,1,0,1,0,0,0,1,1,0,1,0],⟨[0,1,4,10,11,12,50],[⟨.fix 70000,70000,.cells []⟩]⟩),([0,1,0,1,1,1,0,1,0],⟨[0,10,13],[⟨.fix 70000,70000,.cells []⟩]⟩),([1,1,0,0,1,0,1,1,1,0,1,0],⟨[0,10,13],[⟨.fix 70000,70000,.cells []⟩]⟩),([0,0,1,1,0,1,0,1],⟨[0,2,4,14,15],[⟨.fix 70000,70000,.cells []⟩]⟩),([1,1,0,1,0,0,0,1,1,0,1,0,1],⟨[0,2,4,14,15,16,103],[⟨.fix 70000,70000,.cells []⟩]⟩),([0,1,0,1,1,1,0,1,0,1],⟨[0,14,17],[⟨.fix 70000,70000,.cells []⟩]⟩),([1,1,0,0,1,0,1,1,1,0,1,0,1],⟨[0,14,17],[⟨.fix 70000,70000,.cells []⟩]⟩),([1,1,1,1,1,1],⟨[0,1,2,3,4,18,19,20,21],[⟨.fix 70000,70000,.cells []⟩]⟩),([0,0,1,1,1,1,1,1,1],⟨[0,1,2,3,4,18,19,20,21,22],[⟨.fix 70000,70000,.cells []⟩]⟩),([1,1,0,1,0,0,0,1,1,1,1,1,1,1],⟨[0,1,2,3,4,18,19,20,21,22,23,171],[⟨.fix 70000,70000,.cells []⟩]⟩),([1,1,1,1,1,1,1,1,1,1],⟨[0,1,3,4,18,20,24],[⟨.fix 70000,70000,.cells []⟩]⟩),([1,1,1,1,1,1,1,1,1,1,1],⟨[0,3,4,18,24],[⟨.fix 70000,70000,.cells []⟩]⟩)] [([0,1,0,1,1,1,1,1,1,1,1,1],[5]),([0,1,0,1,1,1,1,1,1,1,1,1,1],[5]),([0,1,1,1,1,1,1,1,1,1,1,1,1],[5])]
def zeJ:K:=kR Tryz.prog [70000] ⟨[],[⟨.fix 70000,70000,.cells []⟩]⟩ [70000] Tryz.f83.results.toList
def zc2(k F f1:Nat)(x:Int)(vl1:List (Int×List UInt8×Bool))(vi2 vi3:Int)(vl4:List zk):=zcI (zdJ k) zeM zeJ F [] [0,1,0,1,1,0,0] f1 [(0,.arr 70000),(1,pI x),(4,.clo (.func 30) [pL 3 (.pair (.int .i64) (.pair .str .bool)) vl1] []),(10,pI vi2),(11,pI vi3)] [(70000,.larr 64 true 3 (.dat zt vl4))]
def zEF(k F f1:Nat)(x:Int)(vl1:List (Int×List UInt8×Bool))(vi2 vi3 vi5:Int)(vc6:Bool)(vl4:List zk):=zcv (zdJ k) zeM zeJ F [f1] [0,1,0,1,1,0,0,0,1,0,1,1] [(0,.arr 70000),(1,pI x),(4,.clo (.func 30) [pL 3 (.pair (.int .i64) (.pair .str .bool)) vl1] []),(10,pI vi2),(11,pI vi3),(12,pI vi5),(50,pB vc6)] [(70000,.larr 64 true 3 (.dat zt vl4))]
def zhr(k F f2:Nat)(vi2 vi7:Int)(vl8:List zk):=zcI (zdJ k) zeM zeJ F [] [0,1,0,1,1,1,0,1,0] f2 [(0,.arr 70000),(10,pI vi2),(13,pI vi7)] [(70000,.larr 64 true 3 (.dat zt vl8))]
def zEE(k F f2:Nat)(vi2 vi7:Int)(vl9:List zk):=zcv (zdJ k) zeM zeJ F [f2] [0,1,0,1,1,1,0,1,0,0,1,1] [(0,.arr 70000),(10,pI vi2),(13,pI vi7)] [(70000,.larr 64 true 3 (.dat zt vl9))]
def zc1(k F f3:Nat)(y:Int)(vl10:List (Int×List UInt8×Bool))(vi11 vi12:Int)(vl13:List zk):=zcI (zdJ k) zeM zeJ F [] [1,0,1,0,1,1,0,0] f3 [(0,.arr 70000),(2,pI y),(4,.clo (.func 30) [pL 3 (.pair (.int .i64) (.pair .str .bool)) vl10] []),(14,pI vi11),(15,pI vi12)] [(70000,.larr 64 true 3 (.dat zt vl13))]
def zED(k F f3:Nat)(y:Int)(vl10:List (Int×List UInt8×Bool))(vi11 vi12 vi14:Int)(vc15:Bool)(vl13:List zk):=zcv (zdJ k) zeM zeJ F [f3] [1,0,1,0,1,1,0,0,0,1,0,1,1] [(0,.arr 70000),(2,pI y),(4,.clo (.func 30) [pL 3 (.pair (.int .i64) (.pair .str .bool)) vl10] []),(14,pI vi11),(15,pI vi12),(16,pI vi14),(103,pB vc15)] [(70000,.larr 64 true 3 (.dat zt vl13))]
def zhq(k F f4:Nat)(vi11 vi16:Int)(vl17:List zk):=zcI (zdJ k) zeM zeJ F [] [1,0,1,0,1,1,1,0,1,0] f4 [(0,.arr 70000),(14,pI vi11),(17,pI vi16)] [(70000,.larr 64 true 3 (.dat zt vl17))]
def zEC(k F f4:Nat)(vi11 vi16:Int)(vl18:List zk):=zcv (zdJ k) zeM zeJ F [f4] [1,0,1,0,1,1,1,0,1,0,0,1,1] [(0,.arr 70000),(14,pI vi11),(17,pI vi16)] [(70000,.larr 64 true 3 (.dat zt vl18))]
def zn8(k F:Nat)(x y n:Int)(vl19:List (Int×List UInt8×Bool))(vi20 vi21 vi22 vi23:Int)(l:List zk):=zcv (zdJ k) zeM zeJ F [] [1,1,1,1,1,1] [(0,.arr 70000),(1,pI x),(2,pI y),(3,pI n),(4,.clo (.func 30) [pL 3 (.pair (.int .i64) (.pair .str .bool)) vl19] []),(18,pI vi20),(19,pI vi21),(20,pI vi22),(21,pI vi23)] [(70000,.larr 64 true 3 (.dat zt l))]
def zdM(k F f5:Nat)(x y n:Int)(vl19:List (Int×List UInt8×Bool))(vi20 vi21 vi24 vi25 vi26:Int)(vl27:List zk):=zcI (zdJ k) zeM zeJ F [] [1,1,1,1,1,1,1,0,0] f5 [(0,.arr 70000),(1,pI x),(2,pI y),(3,pI n),(4,.clo (.func 30) [pL 3 (.pair (.int .i64) (.pair .str .bool)) vl19] []),(18,pI vi20),(19,pI vi21),(20,pI vi24),(21,pI vi25),(22,pI vi26)] [(70000,.larr 64 true 3 (.dat zt vl27))]
def zyL(k F f5:Nat)(x y n:Int)(vl19:List (Int×List UInt8×Bool))(vi20 vi21 vi24 vi25 vi26 vi28:Int)(vc29:Bool)(vl27:List zk):=zcv (zdJ k) zeM zeJ F [f5] [1,1,1,1,1,1,1,0,0,0,1,0,1,1] [(0,.arr 70000),(1,pI x),(2,pI y),(3,pI n),(4,.clo (.func 30) [pL 3 (.pair (.int .i64) (.pair .str .bool)) vl19] []),(18,pI vi20),(19,pI vi21),(20,pI vi24),(21,pI vi25),(22,pI vi26),(23,pI vi28),(171,pB vc29)] [(70000,.larr 64 true 3 (.dat zt vl27))]
def zcF(k F:Nat)(x n:Int)(vl19:List (Int×List UInt8×Bool))(vi20 vi24 vi30:Int)(vl31:List zk):=zcv (zdJ k) zeM zeJ F [] [1,1,1,1,1,1,1,1,1,1] [(0,.arr 70000),(1,pI x),(3,pI n),(4,.clo (.func 30) [pL 3 (.pair (.int .i64) (.pair .str .bool)) vl19] []),(18,pI vi20),(20,pI vi24),(24,pI vi30)] [(70000,.larr 64 true 3 (.dat zt vl31))]
def zj8(k F:Nat)(n:Int)(vl19:List (Int×List UInt8×Bool))(vi20 vi30:Int)(vl32:List zk):=zcv (zdJ k) zeM zeJ F [] [1,1,1,1,1,1,1,1,1,1,1] [(0,.arr 70000),(3,pI n),(4,.clo (.func 30) [pL 3 (.pair (.int .i64) (.pair .str .bool)) vl19] []),(18,pI vi20),(24,pI vi30)] [(70000,.larr 64 true 3 (.dat zt vl32))]
def zL4(k F:Nat)(x y n:Int)(o:List (Elt zM))(l:List zk):=zam (zdJ k) Tryz.f83 ⟨[],[⟨.fix 70000,70000,.cells []⟩]⟩ [70000] F [.arr 70000,pI x,pI y,pI n,.clo (.func 30) [pL 3 (.pair (.int .i64) (.pair .str .bool)) o] []] [(70000,.larr 64 true 3 (.dat zt l))]
theorem zqH(k:Nat)(F f1 x vl1 vi2 vi3 vl4):letI B:=vl4.getD x.toNat ((((0:Int),((0:Int),([],((0:Int),([],([],((0:Int),(0:Int)))))))),([],[])),([],[]));letI C:=IntKind.i64.wrap ((IntKind.u64.wrap (vi2+vi3)).fdiv 2);letI A:=vl4.getD C.toNat ((((0:Int),((0:Int),([],((0:Int),([],([],((0:Int),(0:Int)))))))),([],[])),([],[]));letI D:=(vl4.length:Int);zc2 k F (f1+1) x vl1 vi2 vi3 vl4=cond (decide (vi2<vi3)) (ze (zh (vi2+vi3)) (ze (0<=C/\C<D) (ze (C.toNat<vl4.length) (ze (0<=x/\x<D) (ze (x.toNat<vl4.length) (ze (zh8 vl1) (zEF k F f1 x vl1 vi2 vi3 C (decide ((zbM vl1 (A.1,(A.2.1,A.2.2)) (B.1,(B.2.1,B.2.2)))<0)) vl4))))))) (zhr k F F vi2 x vl4):=Eq.trans (by kernel_rfl) (zj (zf (zl (show 0<=(1:Int) from(by decide)) rfl)) rfl)
theorem zCK(k:Nat)(F f1 x vl1 vi2 vi3 vi5 vc6 vl4):zEF k F f1 x vl1 vi2 vi3 vi5 vc6 vl4=cond vc6 (ze (zh (vi5+1)) (zc2 k F f1 x vl1 (vi5+1) vi3 vl4)) (zc2 k F f1 x vl1 vi2 vi5 vl4):=by kernel_rfl
theorem zqG(k:Nat)(F f2 vi2 vi7 vl8):letI B:=vl8.getD vi7.toNat ((((0:Int),((0:Int),([],((0:Int),([],([],((0:Int),(0:Int)))))))),([],[])),([],[]));letI D:=vi7+1;letI A:=vl8.getD D.toNat ((((0:Int),((0:Int),([],((0:Int),([],([],((0:Int),(0:Int)))))))),([],[])),([],[]));letI C:=vl8.set vi7.toNat (A.1,(A.2.1,A.2.2));letI E:=0<=vi7/\vi7<(vl8.length:Int);letI H:=vi7.toNat<vl8.length;zhr k F (f2+1) vi2 vi7 vl8=ze (zh (vi2-1)) (cond (decide (vi7<(vi2-1))) (ze (zh D) (ze (zh D) (ze (0<=D/\D<(vl8.length:Int)) (ze (D.toNat<vl8.length) (ze E (ze H (ze E (ze H (ze (0<=D/\D<(C.length:Int)) (ze (D.toNat<C.length) (zEE k F f2 vi2 vi7 (C.set D.toNat (B.1,(B.2.1,B.2.2)))))))))))))) (some (.tup [],[(70000,.larr 64 true 3 (.dat zt vl8))]))):=by kernel_rfl
theorem zCJ(k:Nat)(F f2 vi2 vi7 vl9):zEE k F f2 vi2 vi7 vl9=ze (zh (vi7+1)) (zhr k F f2 vi2 (vi7+1) vl9):=by kernel_rfl
theorem zqF(k:Nat)(F f3 y vl10 vi11 vi12 vl13):letI B:=vl13.getD y.toNat ((((0:Int),((0:Int),([],((0:Int),([],([],((0:Int),(0:Int)))))))),([],[])),([],[]));letI C:=IntKind.i64.wrap ((IntKind.u64.wrap (vi11+vi12)).fdiv 2);letI A:=vl13.getD C.toNat ((((0:Int),((0:Int),([],((0:Int),([],([],((0:Int),(0:Int)))))))),([],[])),([],[]));letI D:=(vl13.length:Int);zc1 k F (f3+1) y vl10 vi11 vi12 vl13=cond (decide (vi11<vi12)) (ze (zh (vi11+vi12)) (ze (0<=y/\y<D) (ze (y.toNat<vl13.length) (ze (0<=C/\C<D) (ze (C.toNat<vl13.length) (ze (zh8 vl10) (zED k F f3 y vl10 vi11 vi12 C (!(decide ((zbM vl10 (B.1,(B.2.1,B.2.2)) (A.1,(A.2.1,A.2.2)))<0))) vl13))))))) (zhq k F F vi11 y vl13):=Eq.trans (by kernel_rfl) (zj (zf (zl (show 0<=(1:Int) from(by decide)) rfl)) rfl)
theorem zCI(k:Nat)(F f3 y vl10 vi11 vi12 vi14 vc15 vl13):zED k F f3 y vl10 vi11 vi12 vi14 vc15 vl13=cond vc15 (ze (zh (vi14+1)) (zc1 k F f3 y vl10 (vi14+1) vi12 vl13)) (zc1 k F f3 y vl10 vi11 vi14 vl13):=by kernel_rfl
theorem zqE(k:Nat)(F f4 vi11 vi16 vl17):letI B:=vl17.getD vi16.toNat ((((0:Int),((0:Int),([],((0:Int),([],([],((0:Int),(0:Int)))))))),([],[])),([],[]));letI D:=vi16-1;letI A:=vl17.getD D.toNat ((((0:Int),((0:Int),([],((0:Int),([],([],((0:Int),(0:Int)))))))),([],[])),([],[]));letI C:=vl17.set vi16.toNat (A.1,(A.2.1,A.2.2));letI E:=0<=vi16/\vi16<(vl17.length:Int);letI H:=vi16.toNat<vl17.length;zhq k F (f4+1) vi11 vi16 vl17=cond (decide (vi16>vi11)) (ze (zh D) (ze (zh D) (ze (0<=D/\D<(vl17.length:Int)) (ze (D.toNat<vl17.length) (ze E (ze H (ze E (ze H (ze (0<=D/\D<(C.length:Int)) (ze (D.toNat<C.length) (zEC k F f4 vi11 vi16 (C.set D.toNat (B.1,(B.2.1,B.2.2)))))))))))))) (some (.tup [],[(70000,.larr 64 true 3 (.dat zt vl17))])):=by kernel_rfl
theorem zCH(k:Nat)(F f4 vi11 vi16 vl18):zEC k F f4 vi11 vi16 vl18=ze (zh (vi16-1)) (zhq k F f4 vi11 (vi16-1) vl18):=by kernel_rfl
theorem zCG(k:Nat)(F x y n vl19 vi20 vi21 vi22 vi23 l):zn8 k F x y n vl19 vi20 vi21 vi22 vi23 l=ze (zh (vi21-1)) (zdM k F F x y n vl19 vi20 vi21 vi22 vi23 (vi21-1) l):=by kernel_rfl
theorem zmU(k:Nat)(F f5 x y n vl19 vi20 vi21 vi24 vi25 vi26 vl27):letI A:=IntKind.i64.wrap ((IntKind.u64.wrap (vi24+vi25)).fdiv 2);letI C:=vl27.getD A.toNat ((((0:Int),((0:Int),([],((0:Int),([],([],((0:Int),(0:Int)))))))),([],[])),([],[]));letI D:=vi21-vi24;letI E:=vi26-A;letI B:=vl27.getD E.toNat ((((0:Int),((0:Int),([],((0:Int),([],([],((0:Int),(0:Int)))))))),([],[])),([],[]));letI H:=(vl27.length:Int);zdM k F (f5+1) x y n vl19 vi20 vi21 vi24 vi25 vi26 vl27=cond (decide (vi24<vi25)) (ze (zh (vi24+vi25)) (ze (zh E) (ze (0<=E/\E<H) (ze (E.toNat<vl27.length) (ze (0<=A/\A<H) (ze (A.toNat<vl27.length) (ze (zh8 vl19) (zyL k F f5 x y n vl19 vi20 vi21 vi24 vi25 vi26 A (!(decide ((zbM vl19 (B.1,(B.2.1,B.2.2)) (C.1,(C.2.1,C.2.2)))<0))) vl27)))))))) (ze (zh D) (cond ((decide (vi24<y))&&(decide (y<D))) (ze (zsA vi24 y D vl27) (zcF k F x n vl19 vi20 vi24 D (zz8 vi24 y D vl27))) (zcF k F x n vl19 vi20 vi24 D vl27))):=letI A:=(decide (vi24<y))=true;Eq.trans (by kernel_rfl) (zj (zf (zl (show 0<=(1:Int) from(by decide)) rfl)) (zf (nI A (nI A (nI A rfl)))))
theorem zyK(k:Nat)(F f5 x y n vl19 vi20 vi21 vi24 vi25 vi26 vi28 vc29 vl27):zyL k F f5 x y n vl19 vi20 vi21 vi24 vi25 vi26 vi28 vc29 vl27=cond vc29 (ze (zh (vi28+1)) (zdM k F f5 x y n vl19 vi20 vi21 (vi28+1) vi25 vi26 vl27)) (zdM k F f5 x y n vl19 vi20 vi21 vi24 vi28 vi26 vl27):=by kernel_rfl
theorem zyJ(k:Nat)(F x n vl19 vi20 vi24 vi30 vl31):zcF k F x n vl19 vi20 vi24 vi30 vl31=cond ((decide (x<vi24))&&(decide (vi24<vi20))) (ze (zsn k vl19 x vi24 vi20 vl31) (zj8 k F n vl19 vi20 vi30 (zaV vl19 x vi20 vl31))) (zj8 k F n vl19 vi20 vi30 vl31):=letI A:=(decide (x<vi24))=true;Eq.trans (by kernel_rfl) (nI A (nI A (nI A rfl)))
theorem zyI(k:Nat)(F n vl19 vi20 vi30 vl32):zj8 k F n vl19 vi20 vi30 vl32=cond ((decide (vi20<vi30))&&(decide (vi30<n))) (ze (zsn k vl19 vi20 vi30 n vl32) (some (.tup [],[(70000,.larr 64 true 3 (.dat zt (zaV vl19 vi20 n vl32)))]))) (some (.tup [],[(70000,.larr 64 true 3 (.dat zt vl32))])):=letI A:=(decide (vi20<vi30))=true;Eq.trans (by kernel_rfl) (nI A (nI A (nI A rfl)))
theorem zL3(k:Nat)(F x y n o l):letI A:=IntKind.i64.wrap ((IntKind.u64.wrap (x+n)).fdiv 2);letI B:=A+y;zL4 k F x y n o l=ze (zh (y-x)) (cond ((y-x)==1) (zc2 k F F x o y n l) (ze (zh (n-y)) (cond ((n-y)==1) (zc1 k F F y o x y l) (ze (zh (x+n)) (ze (zh B) (cond (decide (y>A)) (ze (zh (B-n)) (zn8 k F x y n o A B (B-n) A l)) (zn8 k F x y n o A B x y l))))))):=Eq.trans (by kernel_rfl) (zf (zj rfl (zf (zj rfl (zf (zl (show 0<=(1:Int) from(by decide)) rfl))))))
theorem zO1(k:Nat)(hrec:zS Tryz.prog 83 (zgV k))(F x y n o l r os):IsR 83 (zL4 k F x y n o l) [.arr 70000,.p (.int .i64 x),.p (.int .i64 y),.p (.int .i64 n),.clo (.func 30) [.p (.list 3 (.dat (.pair (.int .i64) (.pair .str .bool)) o))] []] [(70000,.larr 64 true 3 (.dat zt l))] [70000] r os:=zb9 (zdJ k) ⟨[],[⟨.fix 70000,70000,.cells []⟩]⟩ [70000] rfl ⟨zxi.any,trivial⟩ (hr:=⟨hrec,zOi,trivial⟩)
theorem zLg{p q:Prop}[Decidable p][Decidable q](h:¬ (p/\q)):(decide p&&decide q)=false:=by
 rw[<-Bool.decide_and];exact decide_eq_false h
abbrev znz(l:List zk):Option (AV×List (Nat×AObj)):=some (.tup [],[(70000,.larr 64 true 3 (.dat zt l))])
theorem zQw(k F:Nat)(Z:List zk)(x:zk)(i:Int):∀ (W:List zk) (f2:Nat) (P:List zk),W.length<f2->i=((P.length+W.length+1:Nat):Int)->P.length+(W.length+1+Z.length)<=1000->
 zhr k F f2 i (P.length:Int) (P++(x::(W++Z)))=znz (P++(W++x::Z))
 | [],f2,P,hf,hi,hl=>by
  obtain⟨f2,rfl⟩:∃ k,f2=k+1:=⟨f2-1,by omega⟩
  rw[zqG]
  exact zd (by unfold zh;rw[hi];omega) (zg (decide_eq_false (by rw[hi];simp)) rfl)
 | y::W,f2,P,hf,hi,hl=>by
  obtain⟨f2,rfl⟩:∃ k,f2=k+1:=⟨f2-1,by omega⟩
  rw[List.length_cons]at hf hi hl
  have el:(P++(x::(y::W++Z))).length=P.length+(W.length+2+Z.length):=by simp;omega
  have t1:((P.length:Int)+(1:Int)).toNat=P.length+1:=by omega
  have g0:∀ d,(P++(x::(y::W++Z))).getD P.length d=x:=fun d=>zaN rfl d
  have g1:∀ d,(P++(x::(y::W++Z))).getD (P.length+1) d=y:=fun d=>by
   rw[show P++(x::(y::W++Z))=(P++[x])++y::(W++Z) by simp];exact zaN (by simp) d
  rw[zqG,t1,Int.toNat_natCast]
  simp only[g0,g1,Prod.eta,List.length_set]
  refine zd (by unfold zh;rw[hi];omega) (zi (decide_eq_true (by rw[hi];omega)) (zd (by unfold zh;omega) (zd (by unfold zh;omega) ?_)))
  iterate 4 refine zd (by rw[el];omega) (zd (by rw[el];omega) ?_)
  rw[zCJ]
  refine zd (by unfold zh;omega) ?_
  rw[zcs rfl,show P++y::(y::W++Z)=(P++[y])++y::(W++Z) by simp,zcs (by simp)]
  have ih:=zQw k F Z x i W f2 (P++[y]) (by omega) (by rw[hi];simp;omega) (by simp;omega)
  rw[show(((P++[y]).length:Nat):Int)=(P.length:Int)+1 by simp]at ih
  rw[ih]
  simp
theorem zTk(k F:Nat)(o:List (Elt zM))(P W Q:List zk)(x:zk)(hF:1001<=F)(hs:W.Pairwise (LtF o))(hid:zes (x::W))(hl:P.length+(1+W.length+Q.length)<=1000):
 zc2 k F F (P.length:Int) o ((P.length+1:Nat):Int) ((P.length+1+W.length:Nat):Int) (P++(x::(W++Q)))=znz (P++(zW o (x::W)++Q)):=by
 have eL:P++(x::(W++Q))=(P++[x])++(W++Q):=by simp
 have el:(P++(x::(W++Q))).length=P.length+(1+W.length+Q.length):=by simp;omega
 have pl:(P++[x]).length=P.length+1:=by simp
 have g0:∀ d,(P++(x::(W++Q))).getD P.length d=x:=fun d=>zaN rfl d
 obtain⟨s,s1,s2,s3,s4,s5⟩:=zp6 (fun f i j=>zc2 k F f (P.length:Int) o i j (P++(x::(W++Q)))) (fun i=>zhr k F F i (P.length:Int) (P++(x::(W++Q))))
  (fun h=>decide (zbM o ((P++(x::(W++Q))).getD h dF) x<0)) (P.length+1) (P.length+1+W.length)
  (fun f i j h1 h2 h3=>by
   show zc2 k F (f+1) _ _ _ _ _=_
   rw[zqH,zjz i j (by omega),Int.toNat_natCast,Int.toNat_natCast]
   simp only[g0,Prod.eta]
   refine zi (decide_eq_true (by omega)) (zd (by unfold zh;omega) (zd (by rw[el];omega) (zd (by rw[el];omega) (zd (by rw[el];omega) (zd (by rw[el];omega) (zd trivial ?_))))))
   rw[zCK]
   cases decide (zbM o ((P++(x::(W++Q))).getD ((i+j)/2) dF) x<0)with
   | true=>exact zd (by unfold zh;omega) rfl
   | false=>rfl)
  (fun f i h1 h2=>by
   show zc2 k F (f+1) _ _ _ _ _=_
   rw[zqH]
   exact zg (decide_eq_false (by omega)) rfl)
  (fun u v h1 h2 h3 hv=>by
   rw[decide_eq_true_eq,zbn]at hv ⊢
   by_cases he:u=v
   .rw [he];exact hv
   .refine LtF.trans ?_ hv
    rw[eL]
    exact zdU hs (by omega) (by omega) (by omega) _) W.length F (P.length+1) (P.length+1+W.length) (by omega) (by omega) (by omega) (by omega) (by omega) (fun h q1 q2=>by omega) (fun h q1 q2=>by omega)
 have s3:zc2 k F F (P.length:Int) o ((P.length+1:Nat):Int) ((P.length+1+W.length:Nat):Int) (P++(x::(W++Q)))=zhr k F F (s:Int) (P.length:Int) (P++(x::(W++Q))):=s3
 rw[s3]
 obtain⟨W1,W2,rfl,hW1⟩:∃ W1 W2,W=W1++W2/\W1.length=s-(P.length+1):=⟨W.take (s-(P.length+1)),W.drop (s-(P.length+1)),by simp,by rw[List.length_take];omega⟩
 have wl:(W1++W2).length=W1.length+W2.length:=by simp
 rw[wl]at hl s2 s5
 have q1:∀ z ∈ W1,LtF o z x:=fun z hz=>by
  obtain⟨u,u1,u2,u3⟩:=zd0 (P:=P++[x]) (Q:=W2++Q) hz
  have:=s4 u (by omega) (by omega)
  rw[eL,show(P++[x])++(W1++W2++Q)=(P++[x])++(W1++(W2++Q)) by simp,u3,decide_eq_true_eq,zbn]at this
  exact this
 have q2:∀ z ∈ W2,LtF o x z:=fun z hz=>by
  obtain⟨u,u1,u2,u3⟩:=zd0 (P:=(P++[x])++W1) (Q:=Q) hz
  rw[List.length_append]at u1 u2
  have:=s5 u (by omega) (by omega)
  rw[eL,show(P++[x])++(W1++W2++Q)=((P++[x])++W1)++(W2++Q) by simp,u3,decide_eq_false_iff_not,zbn]at this
  exact LtF.of_not this fun e=>(List.pairwise_cons.1 hid).1 z (by simp[hz]) e.symm
 have hm:zW o (x::(W1++W2))=W1++x::W2:=by
  refine zcy List.perm_middle ?_
  rw[List.pairwise_append]at hs ⊢
  refine⟨hs.1,List.pairwise_cons.2 ⟨q2,hs.2.1⟩,fun a ha z hz=>?_⟩
  rcases List.mem_cons.1 hz with rfl|hz
  .exact q1 a ha
  .exact (q1 a ha).trans (q2 z hz)
 have:=zQw k F (W2++Q) x (s:Int) W1 F P (by omega) (by omega) (by simp;omega)
 rw[hm,show P++(x::(W1++W2++Q))=P++(x::(W1++(W2++Q))) by simp,this]
 simp
theorem zTi(k F:Nat)(P:List zk)(x:zk):∀ (n f4:Nat) (W Z:List zk),W.length=n->n<f4->P.length+(W.length+1+Z.length)<=1000->
 zhq k F f4 (P.length:Int) ((P.length+W.length:Nat):Int) (P++(W++x::Z))=znz (P++(x::(W++Z))):=by
 intro n
 induction n with
 | zero=>
  intro f4 W Z hW hf hl
  obtain⟨f4,rfl⟩:∃ k,f4=k+1:=⟨f4-1,by omega⟩
  have:W=[]:=List.eq_nil_of_length_eq_zero hW
  subst this
  rw[zqE]
  exact zg (decide_eq_false (by simp)) rfl
 | succ n ih=>
  intro f4 W Z hW hf hl
  obtain⟨f4,rfl⟩:∃ k,f4=k+1:=⟨f4-1,by omega⟩
  obtain⟨W,y,rfl⟩:∃ A' y,W=A'++[y]:=by
   rcases List.eq_nil_or_concat W with rfl|⟨A',y,rfl⟩
   .simp at hW
   .exact ⟨A',y,List.concat_eq_append⟩
  have hW:W.length=n:=by simpa using hW
  have hl:P.length+(W.length+1+1+Z.length)<=1000:=by simpa using hl
  have e0:P++(W++[y]++x::Z)=(P++W)++y::x::Z:=by simp
  have e1:P++(W++[y]++x::Z)=(P++(W++[y]))++x::Z:=by simp
  have el:(P++(W++[y]++x::Z)).length=P.length+W.length+2+Z.length:=by simp;omega
  have tn:(((P.length+(W++[y]).length:Nat):Int)).toNat=P.length+W.length+1:=by simp;omega
  have tm:(((P.length+(W++[y]).length:Nat):Int)-(1:Int)).toNat=P.length+W.length:=by simp;omega
  have tj:((P.length+(W++[y]).length:Nat):Int)=((P.length+W.length:Nat):Int)+1:=by simp;omega
  have g1:∀ d,(P++(W++[y]++x::Z)).getD (P.length+W.length+1) d=x:=fun d=>by rw[e1];exact zaN (by simp;omega) d
  have g0:∀ d,(P++(W++[y]++x::Z)).getD (P.length+W.length) d=y:=fun d=>by rw[e0];exact zaN (by simp) d
  rw[zqE,tn,tm]
  simp only[g0,g1,Prod.eta,List.length_set]
  refine zi (decide_eq_true (by omega)) (zd (by unfold zh;omega) (zd (by unfold zh;omega) ?_))
  iterate 4 refine zd (by rw[el];omega) (zd (by rw[el];omega) ?_)
  rw[zCH]
  refine zd (by unfold zh;omega) ?_
  rw[e1,zcs (by simp;omega),show P++(W++[y])++y::Z=(P++W)++y::(y::Z) by simp,zcs (by simp),tj,Int.add_sub_cancel,List.append_assoc P W]
  rw[ih f4 W (y::Z) hW (by omega) (by simp;omega)]
  simp
theorem zTj(k F:Nat)(o:List (Elt zM))(P W Q:List zk)(x:zk)(hF:1001<=F)(hs:W.Pairwise (LtF o))(hid:∀ z ∈ W,idF z≠idF x)(hl:P.length+(W.length+(1+Q.length))<=1000):
 zc1 k F F ((P.length+W.length:Nat):Int) o (P.length:Int) ((P.length+W.length:Nat):Int) (P++(W++x::Q))=znz (P++(zW o (W++[x])++Q)):=by
 have el:(P++(W++x::Q)).length=P.length+(W.length+(1+Q.length)):=by simp;omega
 have g0:∀ d,(P++(W++x::Q)).getD (P.length+W.length) d=x:=fun d=>by rw[<-List.append_assoc];exact zaN (by simp) d
 obtain⟨s,s1,s2,s3,s4,s5⟩:=zp6 (fun f i j=>zc1 k F f ((P.length+W.length:Nat):Int) o i j (P++(W++x::Q))) (fun i=>zhq k F F i ((P.length+W.length:Nat):Int) (P++(W++x::Q)))
  (fun h=>!decide (zbM o x ((P++(W++x::Q)).getD h dF)<0)) P.length (P.length+W.length)
  (fun f i j h1 h2 h3=>by
   show zc1 k F (f+1) _ _ _ _ _=_
   rw[zqF,zjz i j (by omega),Int.toNat_natCast,Int.toNat_natCast]
   simp only[g0,Prod.eta]
   refine zi (decide_eq_true (by omega)) (zd (by unfold zh;omega) (zd (by rw[el];omega) (zd (by rw[el];omega) (zd (by rw[el];omega) (zd (by rw[el];omega) (zd trivial ?_))))))
   rw[zCI]
   cases decide (zbM o x ((P++(W++x::Q)).getD ((i+j)/2) dF)<0)with
   | false=>exact zd (by unfold zh;omega) rfl
   | true=>rfl)
  (fun f i h1 h2=>by
   show zc1 k F (f+1) _ _ _ _ _=_
   rw[zqF]
   exact zg (decide_eq_false (by omega)) rfl)
  (fun u v h1 h2 h3 hv=>by
   rw[Bool.not_eq_true',decide_eq_false_iff_not,zbn]at hv ⊢
   by_cases he:u=v
   .rw [he];exact hv
   .exact fun q=>hv (q.trans (zdU hs (by omega) (by omega) (by omega) _))) W.length F P.length (P.length+W.length) (by omega) (by omega) (by omega) (by omega) (by omega) (fun h q1 q2=>by omega) (fun h q1 q2=>by omega)
 have s3:zc1 k F F ((P.length+W.length:Nat):Int) o (P.length:Int) ((P.length+W.length:Nat):Int) (P++(W++x::Q))=zhq k F F (s:Int) ((P.length+W.length:Nat):Int) (P++(W++x::Q)):=s3
 rw[s3]
 obtain⟨W1,W2,rfl,hW1⟩:∃ W1 W2,W=W1++W2/\W1.length=s-P.length:=⟨W.take (s-P.length),W.drop (s-P.length),by simp,by rw[List.length_take];omega⟩
 have wl:(W1++W2).length=W1.length+W2.length:=by simp
 rw[wl]at hl s2 s5
 have q1:∀ z ∈ W1,LtF o z x:=fun z hz=>by
  obtain⟨u,u1,u2,u3⟩:=zd0 (P:=P) (Q:=W2++x::Q) hz
  have:=s4 u (by omega) (by omega)
  rw[show P++(W1++W2++x::Q)=P++(W1++(W2++x::Q)) by simp,u3,Bool.not_eq_true',decide_eq_false_iff_not,zbn]at this
  exact LtF.of_not this fun e=>hid z (by simp[hz]) e.symm
 have q2:∀ z ∈ W2,LtF o x z:=fun z hz=>by
  obtain⟨u,u1,u2,u3⟩:=zd0 (P:=P++W1) (Q:=x::Q) hz
  rw[List.length_append]at u1 u2
  have:=s5 u (by omega) (by omega)
  rw[show P++(W1++W2++x::Q)=(P++W1)++(W2++x::Q) by simp,u3,Bool.not_eq_false',decide_eq_true_eq,zbn]at this
  exact this
 have hm:zW o (W1++W2++[x])=W1++x::W2:=by
  refine zcy ?_ ?_
  .rw [List.append_assoc]
   exact List.Perm.append_left W1 (List.perm_append_singleton x W2).symm
  .rw [List.pairwise_append]at hs ⊢
   refine⟨hs.1,List.pairwise_cons.2 ⟨q2,hs.2.1⟩,fun a ha z hz=>?_⟩
   rcases List.mem_cons.1 hz with rfl|hz
   .exact q1 a ha
   .exact (q1 a ha).trans (q2 z hz)
 have:=zTi k F (P++W1) x W2.length F W2 Q rfl (by omega) (by simp;omega)
 rw[show(((P++W1).length:Nat):Int)=(s:Int) by simp;omega,show(((P++W1).length+W2.length:Nat):Int)=((P.length+(W1++W2).length:Nat):Int) by simp;omega]at this
 rw[hm,show P++(W1++W2++x::Q)=(P++W1)++(W2++x::Q) by simp,this]
 simp
theorem zH9(k F:Nat)(o:List (Elt zM))(P A B Q:List zk)(hF:1001<=F)(hA:A.Pairwise (LtF o))(hB:B.Pairwise (LtF o))(hid:zes (P++(A++(B++Q))))(hl:P.length+(A.length+(B.length+Q.length))<=1000)
 (a2:2<=A.length) (b2:2<=B.length) (hk:A.length+B.length<=2*2^k) (s lo hi:Nat) (h1:lo<=s) (h2:s<=hi) (mid:Nat) (hm:mid=(P.length+(P.length+A.length+B.length))/2)
 (hlh:(mid<P.length+A.length/\lo=mid-B.length/\hi=mid)\/(P.length+A.length<=mid/\lo=P.length/\hi=P.length+A.length))
 (g1:∀ c,lo<=c->c<s->¬ LtF o ((P++(A++(B++Q))).getD (mid+(P.length+A.length)-1-c) dF) ((P++(A++(B++Q))).getD c dF))
 (g2:∀ c,s<=c->c<hi->LtF o ((P++(A++(B++Q))).getD (mid+(P.length+A.length)-1-c) dF) ((P++(A++(B++Q))).getD c dF)):
 (cond ((decide ((s:Int)<((P.length+A.length:Nat):Int)))&&(decide (((P.length+A.length:Nat):Int)<((mid+(P.length+A.length)-s:Nat):Int))))
  (ze (zsA (s:Int) ((P.length+A.length:Nat):Int) ((mid+(P.length+A.length)-s:Nat):Int) (P++(A++(B++Q)))) (zcF k F (P.length:Int) ((P.length+A.length+B.length:Nat):Int) o (mid:Int) (s:Int) ((mid+(P.length+A.length)-s:Nat):Int) (zz8 (s:Int) ((P.length+A.length:Nat):Int) ((mid+(P.length+A.length)-s:Nat):Int) (P++(A++(B++Q))))))
  (zcF k F (P.length:Int) ((P.length+A.length+B.length:Nat):Int) o (mid:Int) (s:Int) ((mid+(P.length+A.length)-s:Nat):Int) (P++(A++(B++Q)))))=znz (P++(zW o (A++B)++Q)):=by
 have el:(P++(A++(B++Q))).length=P.length+(A.length+(B.length+Q.length)):=by simp
 have hs1:P.length<=s/\s<=P.length+A.length/\s<=mid/\mid-s<=B.length:=by omega
 have c12:∀ u v,P.length<=u->u<s->mid+(P.length+A.length)-s<=v->v<P.length+A.length+B.length->LtF o ((P++(A++(B++Q))).getD u dF) ((P++(A++(B++Q))).getD v dF):=fun u v u1 u2 v1 v2=>by
  have hlo:lo<=s-1:=by omega
  have e1:mid+(P.length+A.length)-1-(s-1)=mid+(P.length+A.length)-s:=by omega
  have hg:=g1 (s-1) hlo (by omega)
  rw[e1]at hg
  have hg2:=LtF.of_not hg (zOO hid (by rw[el];omega) (by rw[el];omega) (by omega) dF)
  have p1:LtF o ((P++(A++(B++Q))).getD u dF) ((P++(A++(B++Q))).getD (mid+(P.length+A.length)-s) dF):=by
   by_cases hu:u=s-1
   .rw [hu];exact hg2
   .exact LtF.trans (zdU hA u1 (by omega) (by omega) dF) hg2
  by_cases hv:v=mid+(P.length+A.length)-s
  .rw [hv];exact p1
  .refine p1.trans ?_
   rw[<-List.append_assoc P A]
   exact zdU hB (by simp;omega) (by omega) (by simp;omega) dF
 have c21:∀ u v,P.length+A.length<=u->u<mid+(P.length+A.length)-s->s<=v->v<P.length+A.length->LtF o ((P++(A++(B++Q))).getD u dF) ((P++(A++(B++Q))).getD v dF):=fun u v u1 u2 v1 v2=>by
  have e1:mid+(P.length+A.length)-1-s=mid+(P.length+A.length)-s-1:=by omega
  have hg:=g2 s (by omega) (by omega)
  rw[e1]at hg
  have p1:LtF o ((P++(A++(B++Q))).getD u dF) ((P++(A++(B++Q))).getD s dF):=by
   by_cases hu:u=mid+(P.length+A.length)-s-1
   .rw [hu];exact hg
   .refine LtF.trans ?_ hg
    rw[<-List.append_assoc P A]
    exact zdU hB (by simp;omega) (by omega) (by simp;omega) dF
  by_cases hv:v=s
  .rw [hv];exact p1
  .exact p1.trans (zdU hA (by omega) (by omega) (by omega) dF)
 obtain⟨A1,A2,rfl,hA1⟩:∃ A1 A2,A=A1++A2/\A1.length=s-P.length:=⟨A.take (s-P.length),A.drop (s-P.length),by simp,by rw[List.length_take];omega⟩
 obtain⟨B1,B2,rfl,hB1⟩:∃ B1 B2,B=B1++B2/\B1.length=mid-s:=⟨B.take (mid-s),B.drop (mid-s),by simp,by rw[List.length_take];omega⟩
 have al:(A1++A2).length=A1.length+A2.length:=by simp
 have bl:(B1++B2).length=B1.length+B2.length:=by simp
 have eL:P++(A1++A2++(B1++B2++Q))=P++(A1++(A2++(B1++(B2++Q)))):=by simp
 simp only[al,bl,eL]at a2 b2 hk hl hlh hid c12 c21 el hs1 hm ⊢
 have m1:∀ x ∈ A1,∃ u,P.length<=u/\u<s/\∀ d,(P++(A1++(A2++(B1++(B2++Q))))).getD u d=x:=fun x hx=>by
  obtain⟨u,u1,u2,u3⟩:=zd0 (P:=P) (Q:=A2++(B1++(B2++Q))) hx
  exact⟨u,u1,by omega,u3⟩
 have m2:∀ x ∈ A2,∃ u,s<=u/\u<P.length+(A1.length+A2.length)/\∀ d,(P++(A1++(A2++(B1++(B2++Q))))).getD u d=x:=fun x hx=>by
  obtain⟨u,u1,u2,u3⟩:=zd0 (P:=P++A1) (Q:=B1++(B2++Q)) hx
  rw[List.length_append]at u1 u2
  exact⟨u,by omega,by omega,fun d=>by rw[<-u3 d];simp⟩
 have m3:∀ x ∈ B1,∃ u,P.length+(A1.length+A2.length)<=u/\u<mid+(P.length+(A1.length+A2.length))-s/\∀ d,(P++(A1++(A2++(B1++(B2++Q))))).getD u d=x:=fun x hx=>by
  obtain⟨u,u1,u2,u3⟩:=zd0 (P:=P++(A1++A2)) (Q:=B2++Q) hx
  simp only[List.length_append]at u1 u2
  exact⟨u,by omega,by omega,fun d=>by rw[<-u3 d];simp⟩
 have m4:∀ x ∈ B2,∃ u,mid+(P.length+(A1.length+A2.length))-s<=u/\u<P.length+(A1.length+A2.length)+(B1.length+B2.length)/\∀ d,(P++(A1++(A2++(B1++(B2++Q))))).getD u d=x:=fun x hx=>by
  obtain⟨u,u1,u2,u3⟩:=zd0 (P:=P++(A1++(A2++B1))) (Q:=Q) hx
  simp only[List.length_append]at u1 u2
  exact⟨u,by omega,by omega,fun d=>by rw[<-u3 d];simp⟩
 have r12:∀ x ∈ A1,∀ y ∈ B2,LtF o x y:=fun x hx y hy=>by
  obtain⟨u,u1,u2,u3⟩:=m1 x hx
  obtain⟨v,v1,v2,v3⟩:=m4 y hy
  have:=c12 u v u1 u2 v1 v2
  rw[u3,v3]at this;exact this
 have r21:∀ x ∈ B1,∀ y ∈ A2,LtF o x y:=fun x hx y hy=>by
  obtain⟨u,u1,u2,u3⟩:=m3 x hx
  obtain⟨v,v1,v2,v3⟩:=m2 y hy
  have:=c21 u v u1 u2 v1 v2
  rw[u3,v3]at this;exact this
 obtain⟨pA1,pA2,rA⟩:=List.pairwise_append.1 hA
 obtain⟨pB1,pB2,rB⟩:=List.pairwise_append.1 hB
 have perm1:(P++(A1++(A2++(B1++(B2++Q))))).Perm (P++((A1++B1)++((A2++B2)++Q))):=by
  refine List.Perm.append_left P ?_
  rw[List.append_assoc,List.append_assoc]
  refine List.Perm.append_left A1 ?_
  rw[<-List.append_assoc,<-List.append_assoc B1]
  exact List.Perm.append_right _ List.perm_append_comm
 have hid1:zes (P++((A1++B1)++((A2++B2)++Q))):=hid.perm perm1
 have i1:zes (A1++B1):=(List.pairwise_append.1 (List.pairwise_append.1 hid1).2.1).1
 have i2:zes (A2++B2):=(List.pairwise_append.1 (List.pairwise_append.1 (List.pairwise_append.1 hid1).2.1).2.1).1
 have hid2:zes (P++(zW o (A1++B1)++((A2++B2)++Q))):=hid1.perm (List.Perm.append_left P (List.Perm.append_right _ (ye o _).symm))
 have ml:(zW o (A1++B1)).length=A1.length+B1.length:=by rw[(ye o _).length_eq];simp
 have hms:zW o (A1++A2++(B1++B2))=zW o (A1++B1)++zW o (A2++B2):=by
  refine zcy ?_ ?_
  .refine ((ye o _).append (ye o _)).trans ?_
   rw[List.append_assoc,List.append_assoc]
   refine List.Perm.append_left A1 ?_
   rw[<-List.append_assoc,<-List.append_assoc A2]
   exact List.Perm.append_right _ List.perm_append_comm
  .refine List.pairwise_append.2 ⟨zgi i1,zgi i2,fun x hx y hy=>?_⟩
   have hx:=(ye o _).subset hx
   have hy:=(ye o _).subset hy
   rcases List.mem_append.1 hx with hx|hx <;> rcases List.mem_append.1 hy with hy|hy
   .exact rA x hx y hy
   .exact r12 x hx y hy
   .exact r21 x hx y hy
   .exact rB x hx y hy
 have e13:zj8 k F ((P.length+(A1.length+A2.length)+(B1.length+B2.length):Nat):Int) o (mid:Int) ((mid+(P.length+(A1.length+A2.length))-s:Nat):Int) (P++(zW o (A1++B1)++((A2++B2)++Q)))=znz (P++(zW o (A1++A2++(B1++B2))++Q)):=by
  rw[zyI,hms]
  have hlen:(P++(zW o (A1++B1)++((A2++B2)++Q))).length=P.length+(A1.length+B1.length+(A2.length+B2.length+Q.length)):=by simp[ml];omega
  have eR:P++(zW o (A1++B1)++((A2++B2)++Q))=(P++zW o (A1++B1))++((A2++B2)++Q):=by simp
  have pl:(P++zW o (A1++B1)).length=mid:=by simp[ml];omega
  by_cases hc:(mid:Int)<((mid+(P.length+(A1.length+A2.length))-s:Nat):Int)/\((mid+(P.length+(A1.length+A2.length))-s:Nat):Int)<((P.length+(A1.length+A2.length)+(B1.length+B2.length):Nat):Int)
  .refine zi (by rw[Bool.and_eq_true,decide_eq_true_eq,decide_eq_true_eq];exact hc) (zd ⟨trivial,by omega,hc.1,hc.2,by rw[hlen];omega,by rw[hlen];omega,by omega,hid2,?_,?_⟩ ?_)
   .rw [eR,show(P++zW o (A1++B1))++((A2++B2)++Q)=(P++zW o (A1++B1))++(A2++(B2++Q)) by simp]
    exact(zco o _ A2 _ _ _ (by rw[pl]) (by rw[pl];omega)).2 pA2
   .rw [show P++(zW o (A1++B1)++((A2++B2)++Q))=(P++(zW o (A1++B1)++A2))++(B2++Q) by simp]
    exact(zco o _ B2 _ _ _ (by simp[ml];omega) (by simp[ml];omega)).2 pB2
   .rw [eR,zb4 o _ (A2++B2) Q _ _ (by rw[pl]) (by rw[pl,List.length_append];omega)]
    simp
  .refine zg (zLg hc) ?_
   have hst:(A2++B2).Pairwise (LtF o):=by
    rcases Nat.eq_zero_or_pos A2.length with h|h
    .rw [List.eq_nil_of_length_eq_zero h];exact pB2
    .have:B2.length=0:=by omega
     rw[List.eq_nil_of_length_eq_zero this,List.append_nil];exact pA2
   rw[zcy (.refl _) hst]
   simp
 have e12:zcF k F (P.length:Int) ((P.length+(A1.length+A2.length)+(B1.length+B2.length):Nat):Int) o (mid:Int) (s:Int) ((mid+(P.length+(A1.length+A2.length))-s:Nat):Int) (P++(A1++(B1++(A2++(B2++Q)))))=znz (P++(zW o (A1++A2++(B1++B2))++Q)):=by
  rw[zyJ,show P++(A1++(B1++(A2++(B2++Q))))=P++((A1++B1)++((A2++B2)++Q)) by simp]
  have hlen:(P++((A1++B1)++((A2++B2)++Q))).length=P.length+(A1.length+B1.length+(A2.length+B2.length+Q.length)):=by simp;omega
  by_cases hc:(P.length:Int)<(s:Int)/\(s:Int)<(mid:Int)
  .refine zi (by rw[Bool.and_eq_true,decide_eq_true_eq,decide_eq_true_eq];exact hc) (zd ⟨trivial,by omega,hc.1,hc.2,by rw[hlen];omega,by rw[hlen];omega,by omega,hid1,?_,?_⟩ ?_)
   .rw [List.append_assoc A1]
    exact(zco o _ A1 _ _ _ rfl (by omega)).2 pA1
   .rw [show P++((A1++B1)++((A2++B2)++Q))=(P++A1)++(B1++((A2++B2)++Q)) by simp]
    exact(zco o _ B1 _ _ _ (by simp;omega) (by simp;omega)).2 pB1
   .rw [zb4 o P (A1++B1) _ _ _ rfl (by rw[List.length_append];omega)]
    exact e13
  .refine zg (zLg hc) ?_
   have hst:(A1++B1).Pairwise (LtF o):=by
    rcases Nat.eq_zero_or_pos A1.length with h|h
    .rw [List.eq_nil_of_length_eq_zero h];exact pB1
    .have:B1.length=0:=by omega
     rw[List.eq_nil_of_length_eq_zero this,List.append_nil];exact pA1
   rw[zcy (.refl _) hst]at e13
   exact e13
 by_cases hc:(s:Int)<((P.length+(A1.length+A2.length):Nat):Int)/\((P.length+(A1.length+A2.length):Nat):Int)<((mid+(P.length+(A1.length+A2.length))-s:Nat):Int)
 .refine zi (by rw[Bool.and_eq_true,decide_eq_true_eq,decide_eq_true_eq];exact hc) (zd ⟨by omega,hc.1,hc.2,by rw[el];omega,by rw[el];omega⟩ ?_)
  rw[<-List.append_assoc P A1,zwX (P++A1) A2 B1 (B2++Q) _ _ _ (by simp;omega) (by simp;omega) (by simp;omega),List.append_assoc P A1]
  exact e12
 .refine zg (zLg hc) ?_
  have:A2++(B1++(B2++Q))=B1++(A2++(B2++Q)):=by
   rcases Nat.eq_zero_or_pos A2.length with h|h
   .rw [List.eq_nil_of_length_eq_zero h];rfl
   .have:B1.length=0:=by omega
    rw[List.eq_nil_of_length_eq_zero this];rfl
  rw[this]
  exact e12
end Go.Proofs.YtampckbjinodgaaGreatDoor
