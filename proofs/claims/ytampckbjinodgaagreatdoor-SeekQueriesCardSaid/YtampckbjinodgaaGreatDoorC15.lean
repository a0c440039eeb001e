/-
  Lifted functions, and facts about them.
-/
import Derived.Test.YtampckbjinodgaaGreatDoorRows
import Derived.Test.YtampckbjinodgaaGreatDoorC01
import Derived.Test.YtampckbjinodgaaGreatDoorAmC
import Derived.Test.YtampckbjinodgaaGreatDoorC14
import Derived.Test.YtampckbjinodgaaGreatDoorC05
import Derived.Test.YtampckbjinodgaaGreatDoorC04
set_option linter.unusedVariables false
noncomputable section
namespace Go.Proofs.YtampckbjinodgaaGreatDoor
open Go Go.Am
def yS(c:UInt8):Bool:=!([34,40,60,58,44,59,32,9,13,10]:List UInt8).contains c
def adF:Nat->List UInt8->List (List UInt8)->List UInt8->Bool->List yl->List yl
 | 0,_,ws,an,hs,out=>zbG ws an hs out
 | _+1,[],ws,an,hs,out=>zbG ws an hs out
 | f+1,c::r,ws,an,hs,out=>
  if c=34 then adF f (r.drop (wiF r).2) (ws++[(wiF r).1]) an hs out
  else if c=40 then adF f (r.drop (rmF 1 r)) ws an hs out
  else if c=60 then adF f (r.drop ((yv r 62).1.length+1)) ws (zbC (yv r 62).1) true out
  else if c=58 then adF f r [] [] false out
  else if c=44\/c=59 then adF f r [] [] false (zbG ws an hs out)
  else if c=32\/c=9\/c=13\/c=10 then adF f r ws an hs out
  else adF f (r.dropWhile yS) (ws++[c::r.takeWhile yS]) an hs out
def zcz(s:List UInt8):List yl:=adF (s.length+1) s [] [] false []
theorem zoi:∀ (n:Nat) (r:List UInt8),r.length<=n->(wiF r).1.length<=(wiF r).2/\(wiF r).2<=r.length
 | _,[],_=>by simp[wiF]
 | _,[c],_=>by rw[wiF];split <;> simp
 | 0,c::d::r,h=>by simp at h
 | n+1,c::d::r,h=>by
  have h1:=zoi n r (by simp at h;omega)
  have h2:=zoi n (d::r) (by simp at h ⊢;omega)
  rw[wiF]
  split
  .simp
  .split
   .simp only[List.length_cons];omega
   .simp only[List.length_cons]at h2 ⊢;omega
theorem zlH:∀ (n k:Nat) (r:List UInt8),r.length<=n->rmF k r<=r.length
 | _,0,_,_=>by simp[rmF]
 | _,_+1,[],_=>by simp[rmF]
 | _,_+1,[_],_=>by simp[rmF]
 | 0,_+1,c::d::r,h=>by simp at h
 | n+1,k+1,c::d::r,h=>by
  have h1:=zlH n (k+2) (d::r) (by simp at h ⊢;omega)
  have h2:=zlH n k (d::r) (by simp at h ⊢;omega)
  have h3:=zlH n (k+1) r (by simp at h;omega)
  have h4:=zlH n (k+1) (d::r) (by simp at h ⊢;omega)
  rw[rmF]
  simp only[List.length_cons]at h1 h2 h4 ⊢
  split
  .omega
  .split
   .omega
   .split <;> omega
theorem zi6(p:UInt8->Bool)(r:List UInt8):(r.takeWhile p).length+(r.dropWhile p).length=r.length:=by
 rw[<-List.length_append,List.takeWhile_append_dropWhile]
theorem zqe:∀ (f g:Nat) (r:List UInt8) (ws:List (List UInt8)) (an:List UInt8) (hs:Bool) (out:List yl),r.length<f->r.length<g->adF f r ws an hs out=adF g r ws an hs out
 | 0,_,r,_,_,_,_,h,_=>by omega
 | _,0,r,_,_,_,_,_,h=>by omega
 | f+1,g+1,[],ws,an,hs,out,_,_=>rfl
 | f+1,g+1,c::r,ws,an,hs,out,hf,hg=>by
  rw[List.length_cons]at hf hg
  have hw:=zi6 yS r
  have ih:∀ (q:List UInt8) ws an hs out,q.length<=r.length->adF f q ws an hs out=adF g q ws an hs out:=fun q ws an hs out hq=>zqe f g q ws an hs out (by omega) (by omega)
  rw[adF,adF]
  rw[ih _ _ _ _ _ (by simp),ih _ _ _ _ _ (by simp),ih _ _ _ _ _ (by simp),ih r [] [] false out (Nat.le_refl _),ih r [] [] false (zbG ws an hs out) (Nat.le_refl _),ih r ws an hs out (Nat.le_refl _),ih _ (ws++[c::r.takeWhile yS]) _ _ _ (by omega)]
theorem zlQ(ws:List (List UInt8))(n:Nat)(h:zav ws+ws.length<=n):(yJ [32] ws).length<=n/\(yJ [] ws).length<=n:=by
 have h1:=zhd [32] ws
 have h2:=zhd [] ws
 simp at h1 h2
 omega
theorem zf3(ws:List (List UInt8))(x:List UInt8):zav (ws++[x])=zav ws+x.length:=by simp[zav]
def zgz:=mkG [(69,zul),(74,zlt)] [(67,zir),(68,zli),(70,zls),(71,zt8),(72,znO),(73,ztX)] 153 [] [([0,0,1,1],⟨[0,3],[⟨.slot 3,3,.cells []⟩,⟨.cell 3 2,4002,(.larr 9 false 1 (.dat .str ([]:List (List UInt8))))⟩,⟨.cell 3 5,4005,(.larr 93 false 3 (.dat (.pair .str (.pair .str .str)) ([]:List (List UInt8×List UInt8×List UInt8))))⟩]⟩),([1,1,1,1,1,1,1,0,0,0,0,0,0,0,0,0,0,0,0,0,0,0,0,0,1,1,1,0,1,0,0,0,1,1],⟨[0,3,45],[⟨.slot 3,3,.cells []⟩,⟨.cell 3 2,4002,(.larr 9 false 1 (.dat .str ([]:List (List UInt8))))⟩,⟨.cell 3 5,4005,(.larr 93 false 3 (.dat (.pair .str (.pair .str .str)) ([]:List (List UInt8×List UInt8×List UInt8))))⟩]⟩),([1,1,0,1,0,0,0,0,0,0,0,0,0,0,1,1,1,0,1,0,0,0,1,1],⟨[0,3,5],[⟨.slot 3,3,.cells []⟩,⟨.cell 3 2,4002,(.larr 9 false 1 (.dat .str ([]:List (List UInt8))))⟩,⟨.cell 3 5,4005,(.larr 93 false 3 (.dat (.pair .str (.pair .str .str)) ([]:List (List UInt8×List UInt8×List UInt8))))⟩]⟩),([1,0,0,0,0,0,1,1,1,0,1,0,0,0,1,1],⟨[0,3],[⟨.slot 3,3,.cells []⟩,⟨.cell 3 2,4002,(.larr 9 false 1 (.dat .str ([]:List (List UInt8))))⟩,⟨.cell 3 5,4005,(.larr 93 false 3 (.dat (.pair .str (.pair .str .str)) ([]:List (List UInt8×List UInt8×List UInt8))))⟩]⟩),([0,0,1,0,1,0,1,1,1,0,1,0,0,0,1,1],⟨[0,3,8],[⟨.slot 3,3,.cells []⟩,⟨.cell 3 2,4002,(.larr 9 false 1 (.dat .str ([]:List (List UInt8))))⟩,⟨.cell 3 5,4005,(.larr 93 false 3 (.dat (.pair .str (.pair .str .str)) ([]:List (List UInt8×List UInt8×List UInt8))))⟩]⟩),([1,0,0,0,0,1,0,1,0,1,1,1,0,1,0,0,0,1,1],⟨[0,3,8,123],[⟨.slot 3,3,.cells []⟩,⟨.cell 3 2,4002,(.larr 9 false 1 (.dat .str ([]:List (List UInt8))))⟩,⟨.cell 3 5,4005,(.larr 93 false 3 (.dat (.pair .str (.pair .str .str)) ([]:List (List UInt8×List UInt8×List UInt8))))⟩]⟩)] [([0,1,0,0,0,0,0,0,0,0,0,0,0,0,0,0,1,1,1,0,1,0,0,0,1,1],[6]),([0,1,0,0,0,0,0,0,0,0,0,0,0,0,1,1,1,0,1,0,0,0,1,1],[1]),([1,1,0,1,0,0,0,0,0,0,0,0,0,0,1,1,1,0,1,0,0,0,1,1],[3,5]),([0,1,0,0,0,0,0,0,0,0,1,1,1,0,1,0,0,0,1,1],[1]),([0,1,0,0,0,0,0,1,1,1,0,1,0,0,0,1,1],[1]),([0,1,1,1],[1]),([999999,0,1,0,0,0,0,0,0,0,0,0,0,0,0,0,0,1,1,1,0,1,0,0,0,1,1],[4,6,0,1,2,3,5,6,4,7,8,9,10,11])]
def zaM(F f1:Nat)(s vs1:List UInt8)(vi2:Int)(vs3:List UInt8)(vc4:Bool)(vl5:List (List UInt8))(vl6:List (List UInt8×List UInt8×List UInt8)):=zH zgz Tryz.f46 F [] [1,1,0,0] f1 [(0,pS s),(3,.ref 3 0)] [(3,.cells [pS vs1,pI vi2,.arr 4002,pS vs3,pB vc4,.arr 4005]),(4002,.larr 9 false 1 (.dat .str vl5)),(4005,.larr 93 false 3 (.dat (.pair .str (.pair .str .str)) vl6))]
def zzz(F f1:Nat)(s vs7 vs1:List UInt8)(vi8:Int)(vs3:List UInt8)(vc4:Bool)(vl5:List (List UInt8))(vl6:List (List UInt8×List UInt8×List UInt8)):=zx zgz Tryz.f46 F [f1] [1,1,0,0,0,1,0,1,1,1,0,0,0,0,0,0,0,0,0,0,1,0,1,1] [(0,pS s),(3,.ref 3 0),(5,pS vs7)] [(3,.cells [pS vs1,pI vi8,.arr 4002,pS vs3,pB vc4,.arr 4005]),(4002,.larr 9 false 1 (.dat .str vl5)),(4005,.larr 93 false 3 (.dat (.pair .str (.pair .str .str)) vl6))]
def zzx(F f1:Nat)(s vs9:List UInt8)(vi10:Int)(vs11:List UInt8)(vc12:Bool)(vl13:List (List UInt8))(vl14:List (List UInt8×List UInt8×List UInt8)):=zx zgz Tryz.f46 F [f1] [1,1,0,0,0,1,0,1,1,1,0,0,0,0,0,1] [(0,pS s),(3,.ref 3 0)] [(3,.cells [pS vs9,pI vi10,.arr 4002,pS vs11,pB vc12,.arr 4005]),(4002,.larr 9 false 1 (.dat .str vl13)),(4005,.larr 93 false 3 (.dat (.pair .str (.pair .str .str)) vl14))]
def ze6(F f1:Nat)(s:List UInt8)(vc15:Bool)(vs1:List UInt8)(vi16:Int)(vs3:List UInt8)(vc4:Bool)(vl5:List (List UInt8))(vl6:List (List UInt8×List UInt8×List UInt8)):=zx zgz Tryz.f46 F [f1] [1,1,0,0,0,1,0,1,1,1,0,0,0,0,0,0,0,0,0,0,0,0,0,0,0,0,0,1,1,1,1,1,1,1] [(0,pS s),(3,.ref 3 0),(45,pB vc15)] [(3,.cells [pS vs1,pI vi16,.arr 4002,pS vs3,pB vc4,.arr 4005]),(4002,.larr 9 false 1 (.dat .str vl5)),(4005,.larr 93 false 3 (.dat (.pair .str (.pair .str .str)) vl6))]
def zk0(F f1 f2:Nat)(s:List UInt8)(vi17:Int)(vs18:List UInt8)(vi19:Int)(vs20:List UInt8)(vc21:Bool)(vl22:List (List UInt8))(vl23:List (List UInt8×List UInt8×List UInt8)):=zH zgz Tryz.f46 F [f1] [1,1,0,0,0,1,0,1,1,1,0,1,0,1,0,0] f2 [(0,pS s),(3,.ref 3 0),(8,pI vi17)] [(3,.cells [pS vs18,pI vi19,.arr 4002,pS vs20,pB vc21,.arr 4005]),(4002,.larr 9 false 1 (.dat .str vl22)),(4005,.larr 93 false 3 (.dat (.pair .str (.pair .str .str)) vl23))]
def zzw(F f1 f2:Nat)(s:List UInt8)(vi17:Int)(vc24:Bool)(vs18:List UInt8)(vi19:Int)(vs20:List UInt8)(vc21:Bool)(vl22:List (List UInt8))(vl23:List (List UInt8×List UInt8×List UInt8)):=zx zgz Tryz.f46 F [f1,f2] [1,1,0,0,0,1,0,1,1,1,0,1,0,1,0,0,0,0,1] [(0,pS s),(3,.ref 3 0),(8,pI vi17),(123,pB vc24)] [(3,.cells [pS vs18,pI vi19,.arr 4002,pS vs20,pB vc21,.arr 4005]),(4002,.larr 9 false 1 (.dat .str vl22)),(4005,.larr 93 false 3 (.dat (.pair .str (.pair .str .str)) vl23))]
def zCw(F:Nat)(s:List UInt8):=zF zgz Tryz.f46 F [pS s]
theorem zgP(F f1 s vs1 vi2 vs3 vc4 vl5 vl6):letI A:=((s.getD vi2.toNat 0).toNat:Int);letI B:=vi2+1;letI E:=(s.length:Int);letI H:=zzx F f1 s vs1 B vs3 vc4 vl5 vl6;letI I:=vs1.drop B.toNat;letI D:=(vl5.length+[(wiF I).1].length)*16<=140737488355328;letI J:=zlJ vs1 B;letI K:=s.drop B.toNat;letI C:=B+((yv K 62).1.length:Int);zaM F (f1+1) s vs1 vi2 vs3 vc4 vl5 vl6=cond (decide (vi2<E)) (ze (0<=vi2/\vi2<E) (ze (zh B) (cond (A==34) (ze J (ze D (ze J (ze D (zaM F f1 s vs1 (B+((wiF I).2:Int)) vs3 vc4 (vl5++[(wiF I).1]) vl6))))) (cond (A==40) (ze J (zaM F f1 s vs1 (B+(rmF 1 I:Int)) vs3 vc4 vl5 vl6)) (cond (A==60) (ze (0<=B/\B<=E) (ze (K.length<=1000000) (ze (zh C) (ze (zh (C+1)) (zzz F f1 s (yv K 62).1 vs1 (if E<(C+1) then E else(C+1)) vs3 vc4 vl5 vl6))))) (cond (A==58) (zaM F f1 s vs1 B ([]:List UInt8) false ([]:List (List UInt8)) vl6) (cond (A==44) H (cond (A==59) H (cond (A==32) (ze6 F f1 s (A==32) vs1 B vs3 vc4 vl5 vl6) (cond (A==9) (ze6 F f1 s (A==9) vs1 B vs3 vc4 vl5 vl6) (cond (A==13) (ze6 F f1 s (A==13) vs1 B vs3 vc4 vl5 vl6) (ze6 F f1 s (A==10) vs1 B vs3 vc4 vl5 vl6)))))))))))) (ze (zk9 vl5 vs3 vl6) (some (.p (.list 3 (.dat (.pair .str (.pair .str .str)) (zbG vl5 vs3 vc4 vl6))),[]))):=Eq.trans (by kernel_rfl) (zj (zf (zf (zj (zf (zf (zf (zf (zvh rfl))))) rfl))) rfl)
theorem zzy(F f1 s vs7 vs1 vi8 vs3 vc4 vl5 vl6):zzz F f1 s vs7 vs1 vi8 vs3 vc4 vl5 vl6=ze (vs7.length<=1000000) (zaM F f1 s vs1 vi8 (zbC vs7) true vl5 vl6):=by kernel_rfl
theorem znu(F f1 s vs9 vi10 vs11 vc12 vl13 vl14):zzx F f1 s vs9 vi10 vs11 vc12 vl13 vl14=ze (zk9 vl13 vs11 vl14) (zaM F f1 s vs9 vi10 ([]:List UInt8) false ([]:List (List UInt8)) (zbG vl13 vs11 vc12 vl14)):=by kernel_rfl
theorem znt(F f1 s vc15 vs1 vi16 vs3 vc4 vl5 vl6):ze6 F f1 s vc15 vs1 vi16 vs3 vc4 vl5 vl6=cond vc15 (zaM F f1 s vs1 vi16 vs3 vc4 vl5 vl6) (ze (zh (vi16-1)) (zk0 F f1 f1 s (vi16-1) vs1 vi16 vs3 vc4 vl5 vl6)):=by kernel_rfl
theorem zns(F f1 f2 s vi17 vs18 vi19 vs20 vc21 vl22 vl23):letI A:=decide (vi19<(s.length:Int));zk0 F f1 (f2+1) s vi17 vs18 vi19 vs20 vc21 vl22 vl23=ze (A=true->0<=vi19/\vi19<(s.length:Int)) (zzw F f1 f2 s vi17 (A&&(decide ((ixS ([34,40,60,58,44,59,32,9,13,10]:List UInt8) ((s.getD vi19.toNat 0).toNat:Int))<0))) vs18 vi19 vs20 vc21 vl22 vl23):=letI A:=(decide (vi19<(s.length:Int)))=true;Eq.trans (by kernel_rfl) (nI A (nI A (nI A (nI A (nI A (zf (nI A (nI A (nI A rfl)))))))))
theorem znr(F f1 f2 s vi17 vc24 vs18 vi19 vs20 vc21 vl22 vl23):letI A:=(s.take vi19.toNat).drop;zzw F f1 f2 s vi17 vc24 vs18 vi19 vs20 vc21 vl22 vl23=cond vc24 (ze (zh (vi19+1)) (zk0 F f1 f2 s vi17 vs18 (vi19+1) vs20 vc21 vl22 vl23)) (ze (0<=vi17/\vi17<=vi19/\vi19<=(s.length:Int)) (ze ((vl22.length+[A vi17.toNat].length)*16<=140737488355328) (zaM F f1 s vs18 vi19 vs20 vc21 (vl22++[A vi17.toNat]) vl23))):=by kernel_rfl
theorem zHF(F s):zCw F s=zaM F F s s 0 ([]:List UInt8) false ([]:List (List UInt8)) ([]:List (List UInt8×List UInt8×List UInt8)):=by kernel_rfl
theorem zKw(F s r):IsP 46 (zCw F s) [.p (.str s)] r:=zG zgz rfl ⟨zJf.any,zAw.any,trivial⟩ (hr:=⟨zAo,zFt,zFE,zOl,zDr,zOa,trivial⟩)
theorem zTG(c:UInt8):decide ((ixS ([34,40,60,58,44,59,32,9,13,10]:List UInt8) ((c.toNat:Nat):Int))<(0:Int))=yS c:=by
 revert c
 have h:∀ k,k<256->decide ((ixS ([34,40,60,58,44,59,32,9,13,10]:List UInt8) (((UInt8.ofNat k).toNat:Nat):Int))<(0:Int))=yS (UInt8.ofNat k):=by
  have:((List.range 256).all fun k=>decide ((ixS ([34,40,60,58,44,59,32,9,13,10]:List UInt8) (((UInt8.ofNat k).toNat:Nat):Int))<(0:Int))==yS (UInt8.ofNat k))=true:=by kernel_rfl
  intro k hk
  exact beq_iff_eq.1 (List.all_eq_true.1 this k (List.mem_range.2 hk))
 intro c
 have:=h c.toNat c.toNat_lt
 rwa [UInt8.ofNat_toNat]at this
theorem zD6(F f1:Nat)(s an:List UInt8)(hs:Bool)(ws:List (List UInt8))(out:List yl)(b:Nat)(hS:s.length<=1000000)(hw:ws.length<=1000000):∀ (r:List UInt8) (i f2:Nat),s.drop i=r->b<=i->i+r.length=s.length->r.length<f2->
 zk0 F f1 f2 s (b:Int) s (i:Int) an hs ws out=zaM F f1 s s ((i+(r.takeWhile yS).length:Nat):Int) an hs (ws++[(s.drop b).take (i+(r.takeWhile yS).length-b)]) out
 | [],i,f2,hd,hb,hl,hf=>by
  obtain⟨f2,rfl⟩:∃ k,f2=k+1:=⟨f2-1,by omega⟩
  have hl:i=s.length:=by simpa using hl
  rw[zns]
  refine zd (fun h=>absurd h (by simp;omega)) ?_
  rw[znr]
  refine zg (by rw[Bool.and_eq_false_iff];exact .inl (decide_eq_false (by omega))) (zd ⟨by omega,by omega,by omega⟩ (zd (by simp;omega) ?_))
  simp only[List.takeWhile_nil,List.length_nil,Nat.add_zero,Int.toNat_natCast,List.drop_take]
 | c::r,i,f2,hd,hb,hl,hf=>by
  obtain⟨f2,rfl⟩:∃ k,f2=k+1:=⟨f2-1,by omega⟩
  obtain⟨hg,hd2,hi⟩:=zap hd
  rw[List.length_cons]at hl hf
  rw[zns,Int.toNat_natCast,hg,zTG]
  refine zd (fun _=>⟨by omega,by omega⟩) ?_
  rw[znr]
  cases hc:yS c with
  | true=>
   refine zi (by rw[Bool.and_true];exact decide_eq_true (by omega)) (zd ⟨by omega,by omega⟩ ?_)
   rw[show((i:Int)+1)=((i+1:Nat):Int) by omega,zD6 F f1 s an hs ws out b hS hw r (i+1) f2 hd2 (by omega) (by omega) (by omega)]
   rw[List.takeWhile_cons_of_pos hc,List.length_cons,show i+((r.takeWhile yS).length+1)=i+1+(r.takeWhile yS).length by omega]
  | false=>
   refine zg (by rw[Bool.and_false]) (zd ⟨by omega,by omega,by omega⟩ (zd (by simp;omega) ?_))
   rw[List.takeWhile_cons_of_neg (by simp[hc])]
   simp only[List.length_nil,Nat.add_zero,Int.toNat_natCast,List.drop_take]
theorem zk8{ws:List (List UInt8)}{an:List UInt8}{out:List yl}(h1:zav ws+ws.length<=80000)(h2:an.length<=40000)(h3:out.length<=40000):zk9 ws an out:=by
 have hj:=zlQ ws 80000 h1
 exact⟨⟨by simp,by omega,by omega⟩,⟨by simp,by omega,by omega⟩,by omega,by omega,by omega,by omega⟩
theorem zsk(ws:List (List UInt8))(an:List UInt8)(hs:Bool)(out:List yl):(zbG ws an hs out).length<=out.length+1:=by
 unfold zbG;split <;> simp
theorem zPW(F:Nat)(s:List UInt8)(hS:s.length<=40000):∀ (n:Nat) (r:List UInt8) (i f:Nat) (ws:List (List UInt8)) (an:List UInt8) (hs:Bool) (out:List yl),r.length<=n->s.drop i=r->i+r.length=s.length->zav ws+ws.length<=2*i->an.length<=s.length->out.length<=i->r.length<f->
 zaM F f s s (i:Int) an hs ws out=some (.p (.list 3 (.dat zbZ (adF (r.length+1) r ws an hs out))),[]):=by
 intro n
 induction n with
 | zero=>
  intro r i f ws an hs out hn hd hl hw ha ho hf
  obtain rfl:r=[]:=List.eq_nil_of_length_eq_zero (by omega)
  obtain⟨f,rfl⟩:∃ k,f=k+1:=⟨f-1,by omega⟩
  have hl:i=s.length:=by simpa using hl
  rw[zgP]
  exact zg (decide_eq_false (by omega)) (zd (zk8 (by omega) (by omega) (by omega)) rfl)
 | succ n ih=>
  intro r i f ws an hs out hn hd hl hw ha ho hf
  obtain⟨f,rfl⟩:∃ k,f=k+1:=⟨f-1,by omega⟩
  cases r with
  | nil=>
   have hl:i=s.length:=by simpa using hl
   rw[zgP]
   exact zg (decide_eq_false (by omega)) (zd (zk8 (by omega) (by omega) (by omega)) rfl)
  | cons c r=>
   obtain⟨hg,hd2,hi⟩:=zap hd
   rw[List.length_cons]at hn hl hf
   have e1:((i:Int)+1)=((i+1:Nat):Int):=by omega
   have e2:((i+1:Nat):Int).toNat=i+1:=Int.toNat_natCast _
   have hdd:∀ k,s.drop (i+1+k)=r.drop k:=fun k=>by rw[<-hd2,List.drop_drop]
   have key:∀ (k:Nat) (ws':List (List UInt8)) (an':List UInt8) (hs':Bool) (out':List yl),k<=r.length->zav ws'+ws'.length<=2*(i+1+k)->an'.length<=s.length->out'.length<=i+1->
    zaM F f s s ((i+1+k:Nat):Int) an' hs' ws' out'=some (.p (.list 3 (.dat zbZ (adF (r.length+1) (r.drop k) ws' an' hs' out'))),[]):=fun k ws' an' hs' out' hk h1 h2 h3=>by
    have hlen:(r.drop k).length=r.length-k:=List.length_drop
    rw[ih (r.drop k) (i+1+k) f ws' an' hs' out' (by omega) (hdd k) (by omega) h1 h2 (by omega) (by omega)]
    rw[zqe ((r.drop k).length+1) (r.length+1) (r.drop k) ws' an' hs' out' (by omega) (by omega)]
   have key0:=fun ws' an' hs' out'=>key 0 ws' an' hs' out' (Nat.zero_le _)
   simp only[Nat.add_zero,List.drop_zero]at key0
   have hrd:zlJ s (i+1:Nat):=⟨by omega,by omega,by omega⟩
   rw[zgP]
   refine zi (decide_eq_true (by omega)) (zd ⟨by omega,by omega⟩ (zd ⟨by omega,by omega⟩ ?_))
   rw[Int.toNat_natCast,hg,e1,e2,hd2,ym c 34 34 34 rfl rfl,ym c 40 40 40 rfl rfl,ym c 60 60 60 rfl rfl,ym c 58 58 58 rfl rfl,ym c 44 44 44 rfl rfl,ym c 59 59 59 rfl rfl,ym c 32 32 32 rfl rfl,ym c 9 9 9 rfl rfl,ym c 13 13 13 rfl rfl,ym c 10 10 10 rfl rfl]
   rw[List.length_cons,adF]
   by_cases h34:c=34
   .rw [if_pos h34]
    refine zi (decide_eq_true h34) ?_
    have hwi:=zoi r.length r (Nat.le_refl _)
    refine zd hrd (zd (by simp;omega) (zd hrd (zd (by simp;omega) ?_)))
    rw[show(((i+1:Nat):Int)+((wiF r).2:Int))=((i+1+(wiF r).2:Nat):Int) by omega]
    exact key (wiF r).2 (ws++[(wiF r).1]) an hs out hwi.2 (by rw[zf3,List.length_append,List.length_singleton];omega) ha (by omega)
   rw[if_neg h34]
   refine zg (decide_eq_false h34) ?_
   by_cases h40:c=40
   .rw [if_pos h40]
    refine zi (decide_eq_true h40) ?_
    have hrm:=zlH r.length 1 r (Nat.le_refl _)
    refine zd hrd ?_
    rw[show(((i+1:Nat):Int)+(rmF 1 r:Int))=((i+1+rmF 1 r:Nat):Int) by omega]
    exact key (rmF 1 r) ws an hs out hrm (by omega) ha (by omega)
   rw[if_neg h40]
   refine zg (decide_eq_false h40) ?_
   by_cases h60:c=60
   .rw [if_pos h60]
    refine zi (decide_eq_true h60) ?_
    have hcl:=zjN r 62
    have hun:=ziU (yv r 62).1
    refine zd ⟨by omega,by omega⟩ (zd (by omega) (zd ⟨by omega,by omega⟩ (zd ⟨by omega,by omega⟩ ?_)))
    rw[zzy]
    refine zd (by omega) ?_
    by_cases hm:(s.length:Int)<(((i+1:Nat):Int)+((yv r 62).1.length:Int))+1
    .rw [if_pos hm]
     have hk:(yv r 62).1.length=r.length:=by omega
     rw[show((s.length:Nat):Int)=((i+1+r.length:Nat):Int) by omega,key r.length ws _ true out (Nat.le_refl _) (by omega) (by omega) (by omega),List.drop_eq_nil_of_le (by omega),List.drop_eq_nil_of_le (show r.length<=(yv r 62).1.length+1 by omega)]
     rfl
    .rw [if_neg hm]
     rw[show(((i+1:Nat):Int)+((yv r 62).1.length:Int))+1=((i+1+((yv r 62).1.length+1):Nat):Int) by omega]
     exact key ((yv r 62).1.length+1) ws _ true out (by omega) (by omega) (by omega) (by omega)
   rw[if_neg h60]
   refine zg (decide_eq_false h60) ?_
   by_cases h58:c=58
   .rw [if_pos h58]
    refine zi (decide_eq_true h58) ?_
    exact key0 [] [] false out (by simp[zav]) (by simp) (by omega)
   rw[if_neg h58]
   refine zg (decide_eq_false h58) ?_
   have htl:=zsk ws an hs out
   have htk:zk9 ws an out:=zk8 (by omega) (by omega) (by omega)
   by_cases h44:c=44
   .rw [if_pos (.inl h44)]
    refine zi (decide_eq_true h44) ?_
    rw[znu]
    exact zd htk (key0 [] [] false _ (by simp[zav]) (by simp) (by omega))
   refine zg (decide_eq_false h44) ?_
   by_cases h59:c=59
   .rw [if_pos (.inr h59)]
    refine zi (decide_eq_true h59) ?_
    rw[znu]
    exact zd htk (key0 [] [] false _ (by simp[zav]) (by simp) (by omega))
   refine zg (decide_eq_false h59) ?_
   rw[if_neg (by rintro(h|h) <;> contradiction)]
   have hskip:∀ b:Bool,b=true->ze6 F f s b s ((i+1:Nat):Int) an hs ws out=some (.p (.list 3 (.dat zbZ (adF (r.length+1) r ws an hs out))),[]):=fun b hb=>by
    rw[znt]
    exact zi hb (key0 ws an hs out (by omega) ha (by omega))
   by_cases h32:c=32
   .rw [if_pos (.inl h32)]
    exact zi (decide_eq_true h32) (hskip _ (decide_eq_true h32))
   refine zg (decide_eq_false h32) ?_
   by_cases h9:c=9
   .rw [if_pos (.inr (.inl h9))]
    exact zi (decide_eq_true h9) (hskip _ (decide_eq_true h9))
   refine zg (decide_eq_false h9) ?_
   by_cases h13:c=13
   .rw [if_pos (.inr (.inr (.inl h13)))]
    exact zi (decide_eq_true h13) (hskip _ (decide_eq_true h13))
   refine zg (decide_eq_false h13) ?_
   by_cases h10:c=10
   .rw [if_pos (.inr (.inr (.inr h10)))]
    exact hskip _ (decide_eq_true h10)
   rw[if_neg (by rintro(h|h|h|h) <;> contradiction),znt]
   refine zg (decide_eq_false h10) (zd ⟨by omega,by omega⟩ ?_)
   rw[show((i+1:Nat):Int)-1=(i:Int) by omega]
   have htw:=zi6 yS r
   rw[zD6 F f s an hs ws out i (by omega) (by omega) r (i+1) f hd2 (by omega) (by omega) (by omega)]
   have ewd:(s.drop i).take (i+1+(r.takeWhile yS).length-i)=c::r.takeWhile yS:=by
    rw[hd,show i+1+(r.takeWhile yS).length-i=(r.takeWhile yS).length+1 by omega,List.take_succ_cons]
    congr 1
    conv=>lhs;rw[<-List.takeWhile_append_dropWhile (p:=yS) (l:=r)]
    rw[List.take_left']
    simp
   have edw:r.drop (r.takeWhile yS).length=r.dropWhile yS:=by
    conv=>lhs;rw[<-List.takeWhile_append_dropWhile (p:=yS) (l:=r)]
    rw[List.drop_left']
    simp
   rw[ewd,key (r.takeWhile yS).length (ws++[c::r.takeWhile yS]) an hs out (by omega) (by rw[zf3,List.length_append,List.length_singleton,List.length_cons];omega) ha (by omega),edw]
   rfl
theorem zLi(s:List UInt8)(hS:s.length<=40000):zCw (s.length+1) s=some (.p (.list 3 (.dat zbZ (zcz s))),[]):=by
 rw[zHF]
 exact zPW (s.length+1) s hS s.length s 0 (s.length+1) [] [] false [] (Nat.le_refl _) rfl (by simp) (by simp[zav]) (by simp) (by simp) (by omega)
def zo1:List AV->Option (AV×Option Prop)
 | [.p (.str s)]=>some (.p (.list 3 (.dat zbZ (zcz s))),some (s.length<=40000))
 | _=>none
theorem zJk:zn Tryz.prog 46 zo1:=by
 intro zs r ok he hok
 unfold zo1 at he
 split at he
 .cases he;exact⟨by kernel_rfl,zKw _ _ _ fun _=>zLi _ hok⟩
 .cases he
def zeS:=mkG [] [] 45 [] [([0,0,1,1],⟨[0,1,6],[⟨.slot 6,6,(.barr 5 false [])⟩]⟩),([1,0,0,1,0,0,0,1,1],⟨[0,1,6,27],[⟨.slot 6,6,(.barr 5 false [])⟩]⟩),([1,0,1,0,0,0,1,1],⟨[0,1,6],[⟨.slot 6,6,(.barr 5 false [])⟩]⟩)] []
def zcG(F f1:Nat)(s:List UInt8)(vi1:Int)(vb2:List UInt8):=zH zeS Tryz.f148 F [] [1,1,0,0] f1 [(0,pS s),(1,pI vi1),(6,.arr 6)] [(6,.barr 5 false vb2)]
def zm7(F f1:Nat)(s:List UInt8)(vi1:Int)(vc3:Bool)(vb2:List UInt8):=zx zeS Tryz.f148 F [f1] [1,1,0,0,0,1,0,0,1] [(0,pS s),(1,pI vi1),(6,.arr 6),(27,pB vc3)] [(6,.barr 5 false vb2)]
def zeh(F f1:Nat)(s:List UInt8)(vi4:Int)(vb2:List UInt8):=zx zeS Tryz.f148 F [f1] [1,1,0,0,0,1,0,1] [(0,pS s),(1,pI vi4),(6,.arr 6)] [(6,.barr 5 false vb2)]
def zl9(F:Nat)(s:List UInt8)(i:Int):=zF zeS Tryz.f148 F [pS s,pI i]
theorem zgF(F f1 s vi1 vb2):letI A:=(s.length:Int);letI B:=((s.getD vi1.toNat 0).toNat:Int);letI C:=vi1+1;letI D:=decide (vi1<A);zcG F (f1+1) s vi1 vb2=ze (D=true->0<=vi1/\vi1<A) (cond (D&&(B != 34)) (ze (0<=vi1/\vi1<A) (ze ((B==92)=true->zh C) (zm7 F f1 s vi1 ((B==92)&&(decide (C<A))) vb2))) (ze (zh C) (some (.tup [.p (.str vb2),.p (.int .i64 (if A<C then A else C))],[])))):=letI A:=(((s.getD vi1.toNat 0).toNat:Int)==92)=true;letI B:=(decide (vi1<(s.length:Int)))=true;Eq.trans (by kernel_rfl) (nI B (nI B (zf (nI B (nI B (zj (zf (nI A (zf (nI A (nI A (nI A (nI A rfl))))))) rfl))))))
theorem zqZ(F f1 s vi1 vc3 vb2):zm7 F f1 s vi1 vc3 vb2=cond vc3 (ze (zh (vi1+1)) (zeh F f1 s (vi1+1) vb2)) (zeh F f1 s vi1 vb2):=by kernel_rfl
theorem zqY(F f1 s vi4 vb2):letI A:=((s.getD vi4.toNat 0).toNat:Int).toNat;zeh F f1 s vi4 vb2=ze (0<=vi4/\vi4<(s.length:Int)) (ze ((vb2.length+[UInt8.ofNat A].length)*1<=140737488355328) (ze (zh (vi4+1)) (zcG F f1 s (vi4+1) (vb2++[UInt8.ofNat A])))):=by kernel_rfl
theorem zvO(F s i):zl9 F s i=zcG F F s i []:=by kernel_rfl
theorem zxG(F s i r):IsP 148 (zl9 F s i) [.p (.str s),.p (.int .i64 i)] r:=zG zeS rfl trivial
theorem zN4(F:Nat)(s:List UInt8)(hS:s.length<=1000000):∀ (n:Nat) (r b:List UInt8) (i f:Nat),r.length<=n->s.drop i=r->i+r.length=s.length->b.length<=i->r.length<f->
 zcG F f s (i:Int) b=some (.tup [.p (.str (b++(wiF r).1)),.p (.int .i64 ((i:Int)+((wiF r).2:Int)))],[]):=by
 intro n
 have hnil:∀ (b:List UInt8) (i f:Nat),i=s.length->0<f->zcG F f s (i:Int) b=some (.tup [.p (.str (b++(wiF []).1)),.p (.int .i64 ((i:Int)+((wiF []).2:Int)))],[]):=fun b i f hi hf=>by
  obtain⟨f,rfl⟩:∃ k,f=k+1:=⟨f-1,by omega⟩
  have hd:decide ((i:Int)<(s.length:Int))=false:=decide_eq_false (by omega)
  rw[zgF,hd]
  refine zd (fun h=>by cases h) (zg rfl (zd (by unfold zh;omega) ?_))
  rw[if_pos (by omega),wiF,List.append_nil,hi]
  rfl
 induction n with
 | zero=>
  intro r b i f hn hd hl hb hf
  obtain rfl:r=[]:=List.eq_nil_of_length_eq_zero (by omega)
  exact hnil b i f (by simpa using hl) (by omega)
 | succ n ih=>
  intro r b i f hn hd hl hb hf
  cases r with
  | nil=>exact hnil b i f (by simpa using hl) (by omega)
  | cons c r=>
   obtain⟨f,rfl⟩:∃ k,f=k+1:=⟨f-1,by omega⟩
   obtain⟨hg,hd2,hi⟩:=zap hd
   rw[List.length_cons]at hn hl hf
   have hdt:decide ((i:Int)<(s.length:Int))=true:=decide_eq_true (by omega)
   have e1:((i:Int)+1)=((i+1:Nat):Int):=by omega
   have eb:(((c.toNat:Nat):Int) != (34:Int))=!decide (c=34):=by rw[bne,ym c 34 34 34 rfl rfl]
   rw[zgF,hdt,Int.toNat_natCast,hg,eb,ym c 92 92 92 rfl rfl]
   refine zd (fun _=>by omega) ?_
   by_cases h34:c=34
   .subst h34
    refine zg (by decide) (zd (by unfold zh;omega) ?_)
    rw[if_neg (by omega)]
    cases r <;> simp[wiF]
   .refine zi (by simpa using h34) (zd ⟨by omega,by omega⟩ (zd (fun _=>by unfold zh;omega) ?_))
    rw[zqZ]
    have h3:∀ (x:UInt8) (r':List UInt8) (j:Nat),s.drop j=x::r'->j+r'.length+1=s.length->r'.length<=n->b.length<=j->r'.length<f->
     zeh F f s (j:Int) b=some (.tup [.p (.str (b++(x::(wiF r').1))),.p (.int .i64 ((j+1:Nat)+((wiF r').2:Int)))],[]):=fun x r' j hdj hj hr hb' hf'=>by
     obtain⟨hgj,hdj2,hji⟩:=zap hdj
     rw[zqY]
     simp only[Int.toNat_natCast,hgj,UInt8.ofNat_toNat]
     refine zd ⟨by omega,by omega⟩ (zd (by simp;omega) (zd (by unfold zh;omega) ?_))
     rw[show((j:Int)+1)=((j+1:Nat):Int) by omega,ih r' (b++[x]) (j+1) f hr hdj2 (by omega) (by simp;omega) hf',List.append_assoc]
     rfl
    cases r with
    | nil=>
     have e2:decide (((i:Int)+1)<(s.length:Int))=false:=decide_eq_false (by simp at hl;omega)
     rw[e2,Bool.and_false]
     refine zg rfl ?_
     rw[h3 c [] i hd (by simpa using hl) (by simp) hb (by simpa using hf)]
     have e3:wiF [c]=([c],1):=by rw[wiF,if_neg h34]
     rw[e3]
     simp[wiF]
    | cons d r=>
     obtain⟨hg2,hd3,hi2⟩:=zap hd2
     rw[List.length_cons]at hn hl hf
     have e2:decide (((i:Int)+1)<(s.length:Int))=true:=decide_eq_true (by omega)
     rw[e2,Bool.and_true]
     by_cases h92:c=92
     .refine zi (decide_eq_true h92) (zd (by unfold zh;omega) ?_)
      rw[e1,h3 d r (i+1) hd2 (by omega) (by omega) (by omega) (by omega)]
      have e3:wiF (c::d::r)=(d::(wiF r).1,(wiF r).2+2):=by rw[wiF,if_neg h34,if_pos h92]
      rw[e3]
      congr 6;simp;omega
     .refine zg (decide_eq_false h92) ?_
      rw[h3 c (d::r) i hd (by simp;omega) (by simp;omega) hb (by simp;omega)]
      have e3:wiF (c::d::r)=(c::(wiF (d::r)).1,(wiF (d::r)).2+1):=by rw[wiF,if_neg h34,if_neg h92]
      rw[e3]
      congr 6;simp;omega
theorem zw0(s:List UInt8)(i:Int)(h:zlJ s i):zl9 (s.length+1) s i=some (.tup [.p (.str (wiF (s.drop i.toNat)).1),.p (.int .i64 (i+((wiF (s.drop i.toNat)).2:Int)))],[]):=by
 obtain⟨h1,h2,h3⟩:=h
 obtain⟨i,rfl⟩:∃ k:Nat,i=k:=⟨i.toNat,by omega⟩
 rw[zvO,zN4 _ s h1 (s.drop i).length (s.drop i) [] i _ (Nat.le_refl _) rfl (by simp;omega) (by simp) (by simp;omega)]
 simp
def zf7:List AV->Option (AV×Option Prop)
 | [.p (.str s),.p (.int .i64 i)]=>some (.tup [.p (.str (wiF (s.drop i.toNat)).1),.p (.int .i64 (i+((wiF (s.drop i.toNat)).2:Int)))],some (zlJ s i))
 | _=>none
theorem zxe:zn Tryz.prog 148 zf7:=by
 intro zs r ok he hok
 unfold zf7 at he
 split at he
 .cases he;exact⟨by kernel_rfl,zxG _ _ _ _ fun _=>zw0 _ _ hok⟩
 .cases he
def zj4:=mkG [] [] 35 [] [([0,0,1,1],⟨[0,1,5],[]⟩),([1,0,1,0,0,0,1,1],⟨[0,1,5],[]⟩)] []
def zdP(F f1:Nat)(s:List UInt8)(vi1 vi2:Int):=zH zj4 Tryz.f149 F [] [1,1,0,0] f1 [(0,pS s),(1,pI vi1),(5,pI vi2)] []
def zdO(F f1:Nat)(s:List UInt8)(vi3 vi4:Int):=zx zj4 Tryz.f149 F [f1] [1,1,0,0,0,1,0,1] [(0,pS s),(1,pI vi3),(5,pI vi4)] []
def zqo(F:Nat)(s:List UInt8)(i:Int):=zF zj4 Tryz.f149 F [pS s,pI i]
theorem zck(F f1 s vi1 vi2):letI A:=((s.getD vi1.toNat 0).toNat:Int);letI B:=(s.length:Int);zdP F (f1+1) s vi1 vi2=cond ((decide (vi1<B))&&(decide (vi2>0))) (ze (0<=vi1/\vi1<B) (cond (A==40) (ze (zh (vi2+1)) (zdO F f1 s vi1 (vi2+1))) (cond (A==41) (ze (zh (vi2-1)) (zdO F f1 s vi1 (vi2-1))) (cond (A==92) (ze (zh (vi1+1)) (zdO F f1 s (vi1+1) vi2)) (zdO F f1 s vi1 vi2))))) (some (.p (.int .i64 (if B<vi1 then B else vi1)),[])):=letI A:=(decide (vi1<(s.length:Int)))=true;Eq.trans (by kernel_rfl) (nI A (nI A rfl))
theorem zcj(F f1 s vi3 vi4):zdO F f1 s vi3 vi4=ze (zh (vi3+1)) (zdP F f1 s (vi3+1) vi4):=by kernel_rfl
theorem zyu(F s i):zqo F s i=zdP F F s i 1:=by kernel_rfl
theorem zAV(F s i r):IsP 149 (zqo F s i) [.p (.str s),.p (.int .i64 i)] r:=zG zj4 rfl trivial
theorem zN3(F:Nat)(s:List UInt8)(hS:s.length<=1000000):∀ (n:Nat) (r:List UInt8) (k i f:Nat),r.length<=n->s.drop i=r->i+r.length=s.length->k<=i+1->r.length+1<f->
 zdP F f s (i:Int) (k:Int)=some (.p (.int .i64 ((i:Int)+(rmF k r:Int))),[]):=by
 intro n
 have hnil:∀ (k i f:Nat),i=s.length->0<f->zdP F f s (i:Int) (k:Int)=some (.p (.int .i64 ((i:Int)+(rmF k []:Int))),[]):=fun k i f hi hf=>by
  obtain⟨f,rfl⟩:∃ q,f=q+1:=⟨f-1,by omega⟩
  rw[zck]
  refine zg (by rw[Bool.and_eq_false_iff,decide_eq_false_iff_not,decide_eq_false_iff_not];omega) ?_
  rw[if_neg (by omega)]
  cases k <;> simp[rmF]
 induction n with
 | zero=>
  intro r k i f hn hd hl hk hf
  obtain rfl:r=[]:=List.eq_nil_of_length_eq_zero (by omega)
  exact hnil k i f (by simpa using hl) (by omega)
 | succ n ih=>
  intro r k i f hn hd hl hk hf
  cases r with
  | nil=>exact hnil k i f (by simpa using hl) (by omega)
  | cons c r=>
   obtain⟨f,rfl⟩:∃ q,f=q+1:=⟨f-1,by omega⟩
   obtain⟨hg,hd2,hi⟩:=zap hd
   rw[List.length_cons]at hn hl hf
   cases k with
   | zero=>
    rw[zck]
    refine zg (by rw[Bool.and_eq_false_iff,decide_eq_false_iff_not,decide_eq_false_iff_not];omega) ?_
    rw[if_neg (by omega)]
    simp[rmF]
   | succ k=>
    rw[zck]
    refine zi (by rw[Bool.and_eq_true,decide_eq_true_iff,decide_eq_true_iff];omega) (zd ⟨by omega,by omega⟩ ?_)
    rw[Int.toNat_natCast,hg,ym c 40 40 40 rfl rfl,ym c 41 41 41 rfl rfl,ym c 92 92 92 rfl rfl]
    have e1:((i:Int)+1)=((i+1:Nat):Int):=by omega
    have e2:(((k+1:Nat):Int)+1)=((k+2:Nat):Int):=by omega
    have e3:(((k+1:Nat):Int)-1)=(k:Int):=by omega
    by_cases h40:c=40
    .subst h40
     refine zi (by decide) (zd (by unfold zh;omega) ?_)
     rw[zcj,e1,e2]
     refine zd (by unfold zh;omega) ?_
     rw[ih r (k+2) (i+1) f (by omega) hd2 (by omega) (by omega) (by omega)]
     cases r with
     | nil=>simp[rmF]
     | cons d r=>rw[show rmF (k+1) (40::d::r)=rmF (k+2) (d::r)+1 by rw[rmF,if_pos rfl]];simp;omega
    .refine zg (by simpa using h40) ?_
     by_cases h41:c=41
     .subst h41
      refine zi (by decide) (zd (by unfold zh;omega) ?_)
      rw[zcj,e1,e3]
      refine zd (by unfold zh;omega) ?_
      rw[ih r k (i+1) f (by omega) hd2 (by omega) (by omega) (by omega)]
      cases r with
      | nil=>cases k <;> simp[rmF]
      | cons d r=>rw[show rmF (k+1) (41::d::r)=rmF k (d::r)+1 by rw[rmF,if_neg (by decide),if_pos rfl]];simp;omega
     .refine zg (by simpa using h41) ?_
      by_cases h92:c=92
      .refine zi (by simpa using h92) (zd (by unfold zh;omega) ?_)
       rw[zcj]
       refine zd (by unfold zh;omega) ?_
       cases r with
       | nil=>
        obtain⟨f,rfl⟩:∃ q,f=q+1:=⟨f-1,by omega⟩
        simp only[List.length_nil]at hl
        rw[zck]
        refine zg (by rw[Bool.and_eq_false_iff,decide_eq_false_iff_not,decide_eq_false_iff_not];omega) ?_
        rw[if_pos (by omega)]
        have:((s.length:Nat):Int)=(i:Int)+1:=by omega
        simp[rmF,this]
       | cons d r=>
        obtain⟨hg2,hd3,hi2⟩:=zap hd2
        rw[List.length_cons]at hn hl hf
        rw[show((i:Int)+1)+1=((i+2:Nat):Int) by omega,ih r (k+1) (i+2) f (by omega) hd3 (by omega) (by omega) (by omega)]
        rw[show rmF (k+1) (c::d::r)=rmF (k+1) r+2 by rw[rmF,if_neg h40,if_neg h41,if_pos h92]]
        simp;omega
      .refine zg (by simpa using h92) ?_
       rw[zcj,e1]
       refine zd (by unfold zh;omega) ?_
       rw[ih r (k+1) (i+1) f (by omega) hd2 (by omega) (by omega) (by omega)]
       cases r with
       | nil=>simp[rmF]
       | cons d r=>rw[show rmF (k+1) (c::d::r)=rmF (k+1) (d::r)+1 by rw[rmF,if_neg h40,if_neg h41,if_neg h92]];simp;omega
theorem zAb(s:List UInt8)(i:Int)(h:zlJ s i):zqo (s.length+2) s i=some (.p (.int .i64 (i+(rmF 1 (s.drop i.toNat):Int))),[]):=by
 obtain⟨h1,h2,h3⟩:=h
 obtain⟨i,rfl⟩:∃ k:Nat,i=k:=⟨i.toNat,by omega⟩
 rw[zyu]
 exact zN3 _ s h1 (s.drop i).length (s.drop i) 1 i _ (Nat.le_refl _) rfl (by simp;omega) (by omega) (by simp;omega)
def ziv:List AV->Option (AV×Option Prop)
 | [.p (.str s),.p (.int .i64 i)]=>some (.p (.int .i64 (i+(rmF 1 (s.drop i.toNat):Int))),some (zlJ s i))
 | _=>none
theorem zAt:zn Tryz.prog 149 ziv:=by
 intro zs r ok he hok
 unfold ziv at he
 split at he
 .cases he;exact⟨by kernel_rfl,zAV _ _ _ _ fun _=>zAb _ _ hok⟩
 .cases he
def zvs:=mkG [] [] 15 [] [([1,0,1,0,1],⟨[4],[]⟩)] []
def zak(F:Nat)(vc1:Bool):=zx zvs Tryz.f151 F [] [1,0,1,0,1] [(4,pB vc1)] []
def zvN(F:Nat)(c:Int):=zF zvs Tryz.f151 F [.p (.int .u8 c)]
theorem zwo(F vc1):zak F vc1=cond vc1 (some (.p (.bool true),[])) (some (.p (.bool false),[])):=by kernel_rfl
theorem zB0(F c):zvN F c=cond (c==34) (zak F (c==34)) (cond (c==40) (zak F (c==40)) (cond (c==60) (zak F (c==60)) (cond (c==58) (zak F (c==58)) (cond (c==44) (zak F (c==44)) (cond (c==59) (zak F (c==59)) (cond (c==32) (zak F (c==32)) (cond (c==9) (zak F (c==9)) (cond (c==10) (zak F (c==10)) (zak F (c==13)))))))))):=by kernel_rfl
theorem zGj(F c r):IsP 151 (zvN F c) [.p (.int .u8 c)] r:=zG zvs rfl trivial
def zsv(c:Int):Bool:=c==34||(c==40||(c==60||(c==58||(c==44||(c==59||(c==32||(c==9||(c==10||c==13))))))))
theorem zFh(c:Int):zvN 0 c=some (.p (.bool (zsv c)),[]):=by
 have h1:∀ b:Bool,zak 0 b=some (.p (.bool b),[]):=fun b=>by rw[zwo];cases b <;> rfl
 rw[zB0]
 simp only[h1]
 have step:∀ (q:Int) (X:Option (AV×List (Nat×AObj))) (b:Bool),X=some (.p (.bool b),[])->cond (c==q) (some (.p (.bool (c==q)),[])) X=some (.p (.bool ((c==q)||b)),[]):=fun q X b hX=>by
  cases h:c==q with
  | true=>rfl
  | false=>exact hX
 rw[step 34 _ _ (step 40 _ _ (step 60 _ _ (step 58 _ _ (step 44 _ _ (step 59 _ _ (step 32 _ _ (step 9 _ _ (step 10 _ _ rfl))))))))]
 rfl
theorem zNC(c:UInt8):zsv ((c.toNat:Nat):Int)=!yS c:=by
 have h:∀ k,k<256->zsv (((UInt8.ofNat k).toNat:Nat):Int)=!yS (UInt8.ofNat k):=by
  have:((List.range 256).all fun k=>zsv (((UInt8.ofNat k).toNat:Nat):Int)==!yS (UInt8.ofNat k))=true:=by kernel_rfl
  intro k hk
  exact beq_iff_eq.1 (List.all_eq_true.1 this k (List.mem_range.2 hk))
 have:=h c.toNat c.toNat_lt
 rwa [UInt8.ofNat_toNat]at this
def zlo:List AV->Option (AV×Option Prop)
 | [.p (.int .u8 c)]=>some (.p (.bool (zsv c)),none)
 | _=>none
theorem zFA:zn Tryz.prog 151 zlo:=by
 intro zs r ok he hok
 unfold zlo at he
 split at he
 .cases he;exact⟨by kernel_rfl,zGj _ _ _ fun _=>zFh _⟩
 .cases he
end Go.Proofs.YtampckbjinodgaaGreatDoor
