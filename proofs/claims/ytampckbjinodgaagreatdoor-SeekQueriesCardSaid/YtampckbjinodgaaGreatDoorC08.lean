/-
  Lifted functions, and facts about them.
-/
import Derived.Test.YtampckbjinodgaaGreatDoorRows
import Derived.Test.YtampckbjinodgaaGreatDoorC01
import Derived.Test.YtampckbjinodgaaGreatDoorAmC
import Derived.Test.YtampckbjinodgaaGreatDoorC07
import Derived.Test.YtampckbjinodgaaGreatDoorC05
set_option linter.unusedVariables false
noncomputable section
namespace Go.Proofs.YtampckbjinodgaaGreatDoor
open Go Go.Am
theorem zpV{s:List UInt8}{i k b:Nat}(h1:i<=k)(h2:k<=b):(s.take b).drop i=(s.take k).drop i++(s.take b).drop k:=by
 have e:s.take b=s.take k++(s.take b).drop k:=by
  have:=(List.take_append_drop k (s.take b)).symm
  rw[List.take_take,Nat.min_eq_left h2]at this;exact this
 by_cases hk:k<=s.length
 .have hl:(s.take k).length=k:=by simp;omega
  obtain⟨X,hX⟩:∃ X,(s.take b).drop k=X:=⟨_,rfl⟩
  rw[hX]at e ⊢
  rw[e,List.drop_append_of_le_length (by omega)]
 .have e1:s.take k=s:=List.take_of_length_le (by omega)
  have e2:s.take b=s:=List.take_of_length_le (by omega)
  rw[e1,e2,List.drop_eq_nil_iff.2 (by omega:s.length<=k),List.append_nil]
def zeT:=mkG [] [] 60 [] [([0,0,1,1],⟨[0,1,2,7],[⟨.slot 7,7,(.larr 141 false 3 (.dat (.pair (.int .i64) (.pair .str (.int .i64))) ([]:List (Int×List UInt8×Int))))⟩]⟩),([0,0,1,0,1,0,0,0,1,1],⟨[0,1,2,7,8],[⟨.slot 7,7,(.larr 141 false 3 (.dat (.pair (.int .i64) (.pair .str (.int .i64))) ([]:List (Int×List UInt8×Int))))⟩]⟩),([1,1,0,1,0,1,1,1,1,0,1,0,0,0,1,1],⟨[0,1,2,7,9,10,45],[⟨.slot 7,7,(.larr 141 false 3 (.dat (.pair (.int .i64) (.pair .str (.int .i64))) ([]:List (Int×List UInt8×Int))))⟩]⟩),([1,1,1,1,1,0,1,0,0,0,1,1],⟨[0,1,2,7,9,10],[⟨.slot 7,7,(.larr 141 false 3 (.dat (.pair (.int .i64) (.pair .str (.int .i64))) ([]:List (Int×List UInt8×Int))))⟩]⟩)] []
def zcc(F f1:Nat)(s:List UInt8)(vi1 b:Int)(vl2:List (Int×List UInt8×Int)):=zH zeT Tryz.f87 F [] [1,1,0,0] f1 [(0,pS s),(1,pI vi1),(2,pI b),(7,.arr 7)] [(7,.larr 141 false 3 (.dat (.pair (.int .i64) (.pair .str (.int .i64))) vl2))]
def zfJ(F f1 f2:Nat)(s:List UInt8)(vi1 b vi3:Int)(vl2:List (Int×List UInt8×Int)):=zH zeT Tryz.f87 F [f1] [1,1,0,0,0,1,0,1,0,0] f2 [(0,pS s),(1,pI vi1),(2,pI b),(7,.arr 7),(8,pI vi3)] [(7,.larr 141 false 3 (.dat (.pair (.int .i64) (.pair .str (.int .i64))) vl2))]
def zq1(F f1:Nat)(s:List UInt8)(vi1 b:Int)(vs4:List UInt8)(vi5:Int)(vc6:Bool)(vl2:List (Int×List UInt8×Int)):=zx zeT Tryz.f87 F [f1] [1,1,0,0,0,1,0,1,1,1,1,0,1,0,1,1] [(0,pS s),(1,pI vi1),(2,pI b),(7,.arr 7),(9,pS vs4),(10,pI vi5),(45,pB vc6)] [(7,.larr 141 false 3 (.dat (.pair (.int .i64) (.pair .str (.int .i64))) vl2))]
def zdQ(F f1:Nat)(s:List UInt8)(vi1 b:Int)(vs7:List UInt8)(vi8:Int)(vl2:List (Int×List UInt8×Int)):=zx zeT Tryz.f87 F [f1] [1,1,0,0,0,1,0,1,1,1,1,1] [(0,pS s),(1,pI vi1),(2,pI b),(7,.arr 7),(9,pS vs7),(10,pI vi8)] [(7,.larr 141 false 3 (.dat (.pair (.int .i64) (.pair .str (.int .i64))) vl2))]
def zqp(F:Nat)(s:List UInt8)(a b:Int):=zF zeT Tryz.f87 F [pS s,pI a,pI b]
theorem zr3(F f1 s vi1 b vl2):zcc F (f1+1) s vi1 b vl2=cond (decide (vi1<b)) (zfJ F f1 f1 s vi1 b vi1 vl2) (some (.p (.list 3 (.dat (.pair (.int .i64) (.pair .str (.int .i64))) vl2)),[])):=by kernel_rfl
theorem zig(F f1 f2 s vi1 b vi3 vl2):letI A:=(s.take vi3.toNat).drop vi1.toNat;letI B:=(A.length:Int)-1;letI C:=A != ([]:List UInt8);letI D:=decide (vi3<b);letI E:=vi3+1;letI H:=(s.length:Int);zfJ F f1 (f2+1) s vi1 b vi3 vl2=ze (D=true->0<=vi3/\vi3<H) (cond (D&&(((s.getD vi3.toNat 0).toNat:Int) != 10)) (ze (zh E) (zfJ F f1 f2 s vi1 b E vl2)) (ze (0<=vi1/\vi1<=vi3/\vi3<=H) (cond D (ze (zh E) (ze (C=true->zh B) (ze (C=true->0<=B/\B<(A.length:Int)) (zq1 F f1 s vi1 b A E (C&&(((A.getD B.toNat 0).toNat:Int)==13)) vl2)))) (zdQ F f1 s vi1 b A vi3 vl2)))):=letI A:=(((s.take vi3.toNat).drop vi1.toNat) != ([]:List UInt8))=true;letI B:=(decide (vi3<b))=true;Eq.trans (by kernel_rfl) (nI B (nI B (zf (nI B (nI B (zj rfl (zf (zj (zf (nI A (nI A (zf (nI A (nI A (zf (nI A (nI A rfl))))))))) rfl))))))))
theorem zr2(F f1 s vi1 b vs4 vi5 vc6 vl2):letI A:=(vs4.length:Int)-1;zq1 F f1 s vi1 b vs4 vi5 vc6 vl2=cond vc6 (ze (zh A) (ze (0<=A/\A<=(vs4.length:Int)) (zdQ F f1 s vi1 b (vs4.take A.toNat) vi5 vl2))) (zdQ F f1 s vi1 b vs4 vi5 vl2):=by kernel_rfl
theorem zif(F f1 s vi1 b vs7 vi8 vl2):zdQ F f1 s vi1 b vs7 vi8 vl2=ze ((vl2.length+[(vi1,(vs7,vi8))].length)*32<=140737488355328) (zcc F f1 s vi8 b (vl2++[(vi1,(vs7,vi8))])):=by kernel_rfl
theorem zyv(F s a b):zqp F s a b=zcc F F s a b ([]:List (Int×List UInt8×Int)):=by kernel_rfl
theorem zAW(F s a b r):IsP 87 (zqp F s a b) [.p (.str s),.p (.int .i64 a),.p (.int .i64 b)] r:=zG zeT rfl trivial
theorem zxp(F f1:Nat){s:List UInt8}{i b:Nat}(hib:i<b)(hb:b<=s.length)(hs:s.length<=1000000)(acc:List (Int×List UInt8×Int))(ha:acc.length<=1000000):∀ (q:List UInt8) (f2 k:Nat),(s.take b).drop k=q->q.length<f2->i<=k->k<=b->(∀ x ∈ (s.take k).drop i,x≠10)->
 ∃ (t:List UInt8) (nx:Nat),yp s i b=(i,t,nx)::yp s nx b/\i<nx/\nx<=b/\zfJ F f1 f2 s (i:Int) (b:Int) (k:Int) acc=zcc F f1 s (nx:Int) (b:Int) (acc++[zdD (i,t,nx)]):=by
 intro q
 induction q with
 | nil=>
  intro f2 k hq hf h1 h2 hp
  have hk:k=b:=by have:=congrArg List.length hq;simp at this;omega
  subst hk
  have hl:((s.take k).drop i).length=k-i:=by simp;omega
  cases f2 with
  | zero=>omega
  | succ f2=>
   refine⟨(s.take k).drop i,k,?_,hib,Nat.le_refl _,?_⟩
   .unfold yp
    rw[zuC [] i hp,List.nil_append,if_neg (by intro h;rw[h]at hl;simp at hl;omega),hl,hq,lnF,if_pos rfl,show i+(k-i)=k by omega]
   .rw [zig,Int.toNat_natCast,Int.toNat_natCast]
    refine zd (fun h=>by simp at h) (zg (by simp) (zd ⟨by omega,by omega,by omega⟩ (zg (by simp) ?_)))
    rw[zif]
    exact zd (by simp;omega) rfl
 | cons c r ih=>
  intro f2 k hq hf h1 h2 hp
  have hkl:k<(s.take b).length:=by
   refine Nat.lt_of_not_le fun h=>?_
   rw[List.drop_of_length_le h]at hq;cases hq
  have hkb:k<b:=by simp at hkl;omega
  have hks:k<s.length:=by omega
  obtain⟨g1,g2,_⟩:=yg hq
  have hgd:s.getD k 0=c:=by
   rw[<-g1,List.getD_eq_getElem?_getD,List.getD_eq_getElem?_getD,List.getElem?_take,if_pos hkb]
  have hl:((s.take k).drop i).length=k-i:=by simp;omega
  cases f2 with
  | zero=>omega
  | succ f2=>
   rw[zig,Int.toNat_natCast,Int.toNat_natCast,hgd]
   by_cases hc:c=10
   .subst hc
    refine⟨zaC ((s.take k).drop i) [13],k+1,?_,by omega,by omega,?_⟩
    .unfold yp
     rw[zpV h1 h2,hq,zAH [] i hp,List.nil_append,hl,show i+(k-i)+1=k+1 by omega,g2]
    .refine zd (fun _=>⟨by omega,by omega⟩) (zg (by simp) (zd ⟨by omega,by omega,by omega⟩ (zi (by simp;omega) (zd (by unfold zh;omega) (zd (fun _=>by unfold zh;omega) (zd (fun h=>?_) ?_))))))
     .have:(s.take k).drop i≠[]:=by simpa using h
      have:=List.length_pos_iff.2 this
      exact⟨by omega,by omega⟩
     .have h4:∀ t:List UInt8,zdQ F f1 s (i:Int) (b:Int) t ((k:Int)+1) acc=zcc F f1 s ((k+1:Nat):Int) (b:Int) (acc++[zdD (i,t,k+1)]):=by
       intro t
       rw[zif]
       refine zd (by simp;omega) ?_
       rw[show(k:Int)+1=((k+1:Nat):Int) by omega];rfl
      rw[zr2,zzL]
      obtain⟨p,hpe⟩:∃ p,(s.take k).drop i=p:=⟨_,rfl⟩
      rw[hpe]at hl ⊢
      by_cases h0:p=[]
      .subst h0
       rw[if_neg (fun h=>h.1 rfl)]
       exact zg rfl (h4 _)
      .have hpl:=List.length_pos_iff.2 h0
       have e1:((p.length:Int)-1).toNat=p.length-1:=by omega
       rw[e1]
       by_cases h13:p.getD (p.length-1) 0=13
       .rw [if_pos ⟨h0,h13⟩]
        refine zi (by rw[h13];simpa using h0) (zd (by unfold zh;omega) (zd ⟨by omega,by omega⟩ ?_))
        exact h4 _
       .rw [if_neg (fun h=>h13 h.2)]
        refine zg ?_ (h4 _)
        rw[Bool.and_eq_false_iff];right
        rw[beq_eq_false_iff_ne]
        intro h;exact h13 (zcP.1 (show _=((13:UInt8).toNat:Int) from h))
   .have hnc:((c.toNat:Int) != (10:Int))=true:=by
     rw[bne_iff_ne];intro h;exact hc (zcP.1 (show _=((10:UInt8).toNat:Int) from h))
    obtain⟨t,nx,z1,z2,z3,z4⟩:=ih f2 (k+1) g2 (by simp at hf;omega) (by omega) (by omega) (by
     intro x hx
     rw[zpV (s:=s) (i:=i) (k:=k) (b:=k+1) h1 (by omega)]at hx
     rcases List.mem_append.1 hx with hx|hx
     .exact hp x hx
     .have e1:(s.take (k+1)).drop k++r=[c]++r:=by
       rw[<-g2,<-zpV (s:=s) (i:=k) (k:=k+1) (b:=b) (by omega) (by omega),hq,g2];rfl
      rw[List.append_cancel_right e1]at hx
      rw[List.mem_singleton.1 hx];exact hc)
    refine⟨t,nx,z1,z2,z3,?_⟩
    refine zd (fun _=>⟨by omega,by omega⟩) (zi (by rw[hnc,Bool.and_true];simp;omega) (zd (by unfold zh;omega) ?_))
    rw[show(k:Int)+1=((k+1:Nat):Int) by omega]
    exact z4
theorem zr1(F:Nat){s:List UInt8}{b:Nat}(hb:b<=s.length)(hs:s.length<=1000000):∀ (n f i:Nat) (acc:List (Int×List UInt8×Int)),b-i=n->n+1<f->i<=b->acc.length<=i->
 zcc F f s (i:Int) (b:Int) acc=some (.p (.list 3 (.dat (.pair (.int .i64) (.pair .str (.int .i64))) (acc++(yp s i b).map zdD))),[]):=by
 intro n
 induction n using Nat.strongRecOn with
 | _ n ih=>
  intro f i acc hn hf hi ha
  cases f with
  | zero=>omega
  | succ f=>
   rw[zr3]
   by_cases hib:i<b
   .refine zi (by simp;omega) ?_
    have hlen:((s.take b).drop i).length=b-i:=by simp;omega
    obtain⟨t,nx,z1,z2,z3,z4⟩:=zxp F f hib hb hs acc (by omega) _ f i rfl (by omega) (Nat.le_refl _) (by omega) (by
     intro x hx
     rw[List.drop_eq_nil_iff.2 (by simp;omega)]at hx;cases hx)
    rw[z4,ih (b-nx) (by omega) f nx _ rfl (by omega) z3 (by simp;omega),z1]
    simp
   .refine zg (by simp;omega) ?_
    rw[ziI (by omega)];simp
theorem zAc(s:List UInt8)(a b:Int)(h:zuD s a b):zqp 1000003 s a b=some (.p (.list 3 (.dat (.pair (.int .i64) (.pair .str (.int .i64))) (zlO s a b))),[]):=by
 obtain⟨na,rfl⟩:∃ n:Nat,a=n:=⟨a.toNat,by omega⟩
 obtain⟨nb,rfl⟩:∃ n:Nat,b=n:=⟨b.toNat,by omega⟩
 rw[zyv,zr1 1000003 (by omega) (by omega) (nb-na) 1000003 na [] rfl (by omega) (by omega) (by simp)]
 unfold zlO
 rw[Int.toNat_natCast,Int.toNat_natCast];rfl
def ziw:List AV->Option (AV×Option Prop)
 | [.p (.str s),.p (.int .i64 a),.p (.int .i64 b)]=>some (.p (.list 3 (.dat (.pair (.int .i64) (.pair .str (.int .i64))) (zlO s a b))),some (zuD s a b))
 | _=>none
theorem zAu:zn Tryz.prog 87 ziw:=by
 intro zs r ok he hok
 unfold ziw at he
 split at he
 .cases he;exact⟨by kernel_rfl,zAW (_) _ _ _ _ fun hx=>zAc _ _ _ hok⟩
 .cases he
def zJs:Nat->Nat->List (Nat×List UInt8×Nat)->Prop
 | a,b,[]=>a<=b
 | a,b,(_,t,nx)::r=>a<nx/\nx<=b/\t.length<=nx-a/\zJs nx b r
theorem zg9{s:List UInt8}{b:Nat}(hb:b<=s.length):∀ (n i:Nat),b-i=n->i<=b->zJs i b (yp s i b)/\(yp s i b).length<=b-i:=by
 intro n
 induction n using Nat.strongRecOn with
 | _ n ih=>
  intro i hn hi
  by_cases h:i<b
  .obtain ⟨h1,h2,h3,h4⟩:=zpr h hb
   obtain⟨k1,k2⟩:=ih (b-(zdZ s i b).2) (by omega) _ rfl h3
   rw[h1]
   exact⟨⟨h2,h3,h4,k1⟩,by simp;omega⟩
  .rw [ziI (by omega)];exact⟨hi,by simp⟩
def zbP:=mkG [(87,ziw),(88,zlp)] [] 120 [] [([0,1,0,1,1,1,1,1],⟨[8,9,10,11],[⟨.slot 8,8,(.larr 9 true 1 (.dat .str ([]:List (List UInt8))))⟩]⟩),([1,1,1,0,0,1,0,0,1,0,1,1,1,1,1],⟨[8,9,10,11,12,65],[⟨.slot 8,8,(.larr 9 true 1 (.dat .str ([]:List (List UInt8))))⟩]⟩),([1,1,0,0,1,0,1,1,1,1,1],⟨[8,9,10,11],[⟨.slot 8,8,(.larr 9 true 1 (.dat .str ([]:List (List UInt8))))⟩]⟩),([1,1,1,1,1,1],⟨[8,9],[⟨.slot 8,8,(.larr 9 true 1 (.dat .str ([]:List (List UInt8))))⟩]⟩),([0,1,0,1,1,1,1,1,1,1],⟨[8,9,13,14],[⟨.slot 8,8,(.larr 9 true 1 (.dat .str ([]:List (List UInt8))))⟩,⟨.slot 13,13,(.larr 85 false 2 (.dat (.pair .str .str) ([]:List (List UInt8×List UInt8))))⟩]⟩),([1,1,0,0,1,0,0,1,0,1,1,1,1,1,1,1],⟨[8,9,13,14,15,113],[⟨.slot 8,8,(.larr 9 true 1 (.dat .str ([]:List (List UInt8))))⟩,⟨.slot 13,13,(.larr 85 false 2 (.dat (.pair .str .str) ([]:List (List UInt8×List UInt8))))⟩,⟨.slot 15,15,.cells []⟩]⟩),([1,1,0,0,1,0,1,1,1,1,1,1,1],⟨[8,9,13,14],[⟨.slot 8,8,(.larr 9 true 1 (.dat .str ([]:List (List UInt8))))⟩,⟨.slot 13,13,(.larr 85 false 2 (.dat (.pair .str .str) ([]:List (List UInt8×List UInt8))))⟩]⟩)] []
def zdN(F f1:Nat)(vi1:Int)(vl2:List (Int×List UInt8×Int))(vi3:Int)(vl4:List (List UInt8)):=zH zbP Tryz.f53 F [] [1,1,1,1,1,0,1,0] f1 [(8,.arr 8),(9,pI vi1),(10,pL 3 (.pair (.int .i64) (.pair .str (.int .i64))) vl2),(11,pI vi3)] [(8,.larr 9 true 1 (.dat .str vl4))]
def zfI(F:Nat)(vi5:Int)(vl6:List (List UInt8)):=zx zbP Tryz.f53 F [] [1,1,1,1,1,1] [(8,.arr 8),(9,pI vi5)] [(8,.larr 9 true 1 (.dat .str vl6))]
def zfH(F f2:Nat)(vi5 vi7:Int)(vl8:List (List UInt8))(vl9:List (List UInt8×List UInt8)):=zH zbP Tryz.f53 F [] [1,1,1,1,1,1,1,0,1,0] f2 [(8,.arr 8),(9,pI vi5),(13,.arr 13),(14,pI vi7)] [(8,.larr 9 true 1 (.dat .str vl8)),(13,.larr 85 false 2 (.dat (.pair .str .str) vl9))]
def zqX(F f2:Nat)(vi5 vi7:Int)(vc10:Bool)(vl8:List (List UInt8))(vl9:List (List UInt8×List UInt8))(vs11 vs12:List UInt8):=zx zbP Tryz.f53 F [f2] [1,1,1,1,1,1,1,0,1,0,0,1,0,0,1,1] [(8,.arr 8),(9,pI vi5),(13,.arr 13),(14,pI vi7),(15,.ref 15 0),(113,pB vc10)] [(8,.larr 9 true 1 (.dat .str vl8)),(13,.larr 85 false 2 (.dat (.pair .str .str) vl9)),(15,.cells [pS vs11,pS vs12])]
def zfG(F f2:Nat)(vi5 vi7:Int)(vl13:List (List UInt8))(vl14:List (List UInt8×List UInt8)):=zx zbP Tryz.f53 F [f2] [1,1,1,1,1,1,1,0,1,0,0,1,1] [(8,.arr 8),(9,pI vi5),(13,.arr 13),(14,pI vi7)] [(8,.larr 9 true 1 (.dat .str vl13)),(13,.larr 85 false 2 (.dat (.pair .str .str) vl14))]
def zi1(F f1:Nat)(vi1:Int)(vl2:List (Int×List UInt8×Int))(vi3:Int)(vs15:List UInt8)(vc16:Bool)(vl4:List (List UInt8)):=zx zbP Tryz.f53 F [f1] [1,1,1,1,1,0,1,0,0,1,0,0,1,1,1] [(8,.arr 8),(9,pI vi1),(10,pL 3 (.pair (.int .i64) (.pair .str (.int .i64))) vl2),(11,pI vi3),(12,pS vs15),(65,pB vc16)] [(8,.larr 9 true 1 (.dat .str vl4))]
def zfF(F f1:Nat)(vi17:Int)(vl2:List (Int×List UInt8×Int))(vi3:Int)(vl18:List (List UInt8)):=zx zbP Tryz.f53 F [f1] [1,1,1,1,1,0,1,0,0,1,1] [(8,.arr 8),(9,pI vi17),(10,pL 3 (.pair (.int .i64) (.pair .str (.int .i64))) vl2),(11,pI vi3)] [(8,.larr 9 true 1 (.dat .str vl18))]
def zqn(F:Nat)(s:List UInt8)(a b:Int):=zF zbP Tryz.f53 F [pS s,pI a,pI b]
theorem zie(F f1 vi1 vl2 vi3 vl4):letI C:=0<=vi3/\vi3<(vl2.length:Int);letI D:=decide (vi3>0);letI E:=(0:Int);letI A:=(vl2.getD vi3.toNat (E,([],E))).2;letI B:=((A.1.getD E.toNat 0).toNat:Int);letI H:=(A.1.length:Int);zdN F (f1+1) vi1 vl2 vi3 vl4=cond (decide (vi3<(vl2.length:Int))) (ze C (cond (A.1==([]:List UInt8)) (ze C (zfI F A.2 vl4)) (ze (D=true->0<=E/\E<H) (ze ((D&&(!(B==32)))=true->0<=E/\E<H) (zi1 F f1 vi1 vl2 vi3 A.1 (D&&((B==32)||(B==9))) vl4))))) (zfI F vi1 vl4):=letI A:=(((vl2.getD vi3.toNat ((0:Int),([],(0:Int)))).2.1.getD (0:Int).toNat 0).toNat:Int)==32;letI B:=decide (vi3>0);letI C:=B=true;letI D:=B&&(!A);Eq.trans (by kernel_rfl) (zj (zf (zj rfl (nI C (zf (nI C (nI C (nI (D=true) (zf (nI (D=true) (nI C (zl (show B=true->A=false->D=true from(fun q0 q1=>(zfx q0 (zen q1)))) (nI C rfl)))))))))))) rfl)
theorem zr0(F vi5 vl6):zfI F vi5 vl6=zfH F F vi5 0 vl6 ([]:List (List UInt8×List UInt8)):=by kernel_rfl
theorem zid(F f2 vi5 vi7 vl8 vl9):letI A:=vl8.getD vi7.toNat [];letI C:=(vl8.length:Int);letI D:=zcR A;letI E:=(0:Int);letI B:=D.2&&(((A.getD E.toNat 0).toNat:Int) != 32);letI H:=(A.length:Int);zfH F (f2+1) vi5 vi7 vl8 vl9=cond (decide (vi7<C)) (ze (0<=vi7/\vi7<C) (ze (vi7.toNat<vl8.length) (ze (A.length<=1000000) (ze (D.2=true->0<=vi7/\vi7<C) (ze (D.2=true->vi7.toNat<vl8.length) (ze (D.2=true->0<=E/\E<H) (ze (B=true->0<=vi7/\vi7<C) (ze (B=true->vi7.toNat<vl8.length) (ze (B=true->0<=E/\E<H) (zqX F f2 vi5 vi7 (B&&(((A.getD E.toNat 0).toNat:Int) != 9)) vl8 vl9 D.1.1 D.1.2)))))))))) (some (.tup [.p (.list 2 (.dat (.pair .str .str) vl9)),.p (.int .i64 vi5)],[])):=letI A:=((zcR (vl8.getD vi7.toNat [])).2&&((((vl8.getD vi7.toNat []).getD (0:Int).toNat 0).toNat:Int) != 32))=true;letI B:=(zcR (vl8.getD vi7.toNat [])).2=true;Eq.trans (by kernel_rfl) (zj (zf (zf (zf (nI B (nI B (zf (nI B (zf (nI B (zf (nI B (nI B (nI A (nI A (zf (nI A (zf (nI A (zf (nI A (nI A rfl))))))))))))))))))))) rfl)
theorem zrZ(F f2 vi5 vi7 vc10 vl8 vl9 vs11 vs12):zqX F f2 vi5 vi7 vc10 vl8 vl9 vs11 vs12=cond vc10 (ze ((vl9.length+[(vs11,vs12)].length)*32<=140737488355328) (zfG F f2 vi5 vi7 vl8 (vl9++[(vs11,vs12)]))) (zfG F f2 vi5 vi7 vl8 vl9):=by kernel_rfl
theorem zrY(F f2 vi5 vi7 vl13 vl14):zfG F f2 vi5 vi7 vl13 vl14=ze (zh (vi7+1)) (zfH F f2 vi5 (vi7+1) vl13 vl14):=by kernel_rfl
theorem zrX(F f1 vi1 vl2 vi3 vs15 vc16 vl4):letI A:=(vl4.length:Int)-1;letI B:=0<=A/\A<(vl4.length:Int);letI C:=A.toNat<vl4.length;letI D:=vl4.getD A.toNat [];zi1 F f1 vi1 vl2 vi3 vs15 vc16 vl4=cond vc16 (ze (zh A) (ze (zh A) (ze B (ze C (ze (zaW (D.length+vs15.length)) (ze B (ze C (zfF F f1 vi1 vl2 vi3 (vl4.set A.toNat (D++vs15)))))))))) (ze ((vl4.length+[vs15].length)*16<=140737488355328) (zfF F f1 vi1 vl2 vi3 (vl4++[vs15]))):=by kernel_rfl
theorem zrW(F f1 vi17 vl2 vi3 vl18):zfF F f1 vi17 vl2 vi3 vl18=ze (zh (vi3+1)) (zdN F f1 vi17 vl2 (vi3+1) vl18):=by kernel_rfl
theorem zyt(F s a b):zqn F s a b=cond (((decide (a<0))||(decide (b>(s.length:Int))))||(decide (a>b))) (some (.tup [.p .nil,.p (.int .i64 a)],[])) (ze (zuD s a b) (zdN F F b (zlO s a b) 0 ([]:List (List UInt8)))):=letI A:=(decide (a<0))||(decide (b>(s.length:Int)));letI B:=(!(decide (a<0)))=true;Eq.trans (by kernel_rfl) (nI B (nI B (nI B (nN (decide (a<0)) (nI ((!A)=true) (nI ((!A)=true) (nN A rfl)))))))
theorem zAU(F s a b r):IsP 53 (zqn F s a b) [.p (.str s),.p (.int .i64 a),.p (.int .i64 b)] r:=zG zbP rfl ⟨zAu.any,zFB.any,trivial⟩
theorem znF(F:Nat)(g:List (List UInt8))(body:Int)(hg:g.length<=1000000)(hx:∀ x ∈ g,x≠[]/\x.length<=1000000):∀ (r:List (List UInt8)) (f i:Nat) (acc:List (List UInt8×List UInt8)),g.drop i=r->r.length<f->i<=g.length->acc.length<=i->
 zfH F f body (i:Int) g acc=some (.tup [.p (.list 2 (.dat (.pair .str .str) (acc++zaf r))),.p (.int .i64 body)],[]):=by
 intro r
 induction r with
 | nil=>
  intro f i acc hd hf hi ha
  have:i=g.length:=by have:=congrArg List.length hd;simp at this;omega
  cases f with
  | zero=>omega
  | succ f=>
   rw[zid]
   refine zg (by simp;omega) ?_
   rw[show zaf []=[] from rfl,List.append_nil]
 | cons c r ih=>
  intro f i acc hd hf hi ha
  obtain⟨h1,h2,h3⟩:=yF hd []
  have hc:=hx c (by rw[<-h1];exact yi h3 [])
  have hcl:=List.length_pos_iff.2 hc.1
  cases f with
  | zero=>omega
  | succ f=>
   have nxt:∀ acc',acc'.length<=i+1->zfG F f body (i:Int) g acc'=some (.tup [.p (.list 2 (.dat (.pair .str .str) (acc'++zaf r))),.p (.int .i64 body)],[]):=by
    intro acc' ha'
    rw[zrY]
    refine zd (by unfold zh;omega) ?_
    rw[show(i:Int)+1=((i+1:Nat):Int) by omega]
    exact ih f (i+1) acc' h2 (by simp at hf;omega) (by omega) ha'
   rw[zid]
   rw[Int.toNat_natCast,h1]
   refine zi (by simp;omega) (zd ⟨by omega,by omega⟩ (zd h3 (zd hc.2 (zd (fun _=>⟨by omega,by omega⟩) (zd (fun _=>h3) (zd (fun _=>⟨by omega,by omega⟩) (zd (fun _=>⟨by omega,by omega⟩) (zd (fun _=>h3) (zd (fun _=>⟨by omega,by omega⟩) ?_)))))))))
   have hb:(((zcR c).2&&(((c.getD ((0:Int)).toNat 0).toNat:Int) != (32:Int)))&&(((c.getD ((0:Int)).toNat 0).toNat:Int) != (9:Int)))=(zbS c).2:=by
    have hm:(zcR c).2=(zbS c).2:=by
     unfold zcR
     cases h:(zbS c).2 with
     | true=>rw[if_pos rfl]
     | false=>rw[if_neg (by simp)]
    rw[hm,Bool.and_assoc,bne,bne,<-Bool.not_or,zfl hc.1]
    cases h:zaK c with
    | true=>rw[zpm h];rfl
    | false=>simp
   rw[hb,zrZ,zjC]
   cases ho:(zbS c).2 with
   | true=>
    have hm:(zcR c).1=(zbS c).1:=by unfold zcR;rw[if_pos ho]
    rw[hm]
    refine zi rfl (zd (by simp;omega) ?_)
    rw[if_pos rfl,<-List.append_assoc]
    exact nxt _ (by simp;omega)
   | false=>
    rw[if_neg (by simp),List.nil_append]
    exact zg rfl (nxt acc (by omega))
theorem znG(F b:Nat)(hb:b<=1000000)(L:List (Nat×List UInt8×Nat))(hL:L.length<=1000000):∀ (r:List (Nat×List UInt8×Nat)) (f i a:Nat) (g:List (List UInt8)),L.drop i=r->r.length<f->i<=L.length->zJs a b r->g.length<=a->(∀ x ∈ g,x.length<=a)->(∀ x ∈ g,x≠[])->(i=0->g=[])->(0<i->g≠[])->a<=b->
 zdN F f (b:Int) (L.map zdD) (i:Int) g=zfI F (yA r (b:Int) g).2 (yA r (b:Int) g).1/\(yA r (b:Int) g).1.length<=b/\∀ x ∈ (yA r (b:Int) g).1,x≠[]/\x.length<=b:=by
 intro r
 induction r with
 | nil=>
  intro f i a g hd hf hi hl hg hx hne h0 h1 hab
  have:i=L.length:=by have:=congrArg List.length hd;simp at this;omega
  cases f with
  | zero=>omega
  | succ f=>
   rw[zie,List.length_map]
   exact⟨zg (by simp;omega) rfl,by rw[yA];dsimp only;omega,fun x h=>⟨hne x h,by have:=hx x h;omega⟩⟩
 | cons c r ih=>
  obtain⟨at0,t,nx⟩:=c
  intro f i a g hd hf hi hl hg hx hne h0 h1 hab
  obtain⟨l1,l2,l3,l4⟩:=hl
  have hdm:(L.map zdD).drop i=zdD (at0,t,nx)::r.map zdD:=by rw[<-List.map_drop,hd];rfl
  obtain⟨k1,_,k3⟩:=yF hdm ((0:Int),([],(0:Int)))
  obtain⟨_,g2,g3⟩:=yF hd (0,[],0)
  rw[List.length_map]at k3
  obtain⟨s1,s2⟩:=zQy (t:=t) (nx:=(nx:Int)) (body:=(b:Int)) (g:=g) l1 hg hx l3
  cases f with
  | zero=>omega
  | succ f=>
   rw[zie,Int.toNat_natCast,k1,List.length_map]
   by_cases ht:t=[]
   .have e:yA ((at0,t,nx)::r) (b:Int) g=(g,(nx:Int)):=by rw[yA,if_pos ht]
    rw[e]
    refine⟨zi (by simp;omega) (zd ⟨by omega,by omega⟩ (zi (by rw[ht];rfl) (zd ⟨by omega,by omega⟩ rfl))),by dsimp only;omega,fun x h=>⟨hne x h,by have:=hx x h;omega⟩⟩
   .have hsn:(stp t (nx:Int) (b:Int) g).1=none:=by unfold stp;rw[if_neg ht];split <;> rfl
    have hsb:(stp t (nx:Int) (b:Int) g).2.1=(b:Int):=by unfold stp;rw[if_neg ht];split <;> rfl
    have hs2:(stp t (nx:Int) (b:Int) g).2.2=if g≠[]/\zaK t=true then g.set (g.length-1) (g.getD (g.length-1) []++t) else g++[t]:=by unfold stp;rw[if_neg ht];split <;> rfl
    rw[zsZ hsn,hsb]
    have hgne:(stp t (nx:Int) (b:Int) g).2.2≠[]:=by
     rw[hs2];split
     .rename_i h;intro q
      have:=congrArg List.length q
      simp at this;exact h.1 this
     .simp
    have hxne:∀ x ∈ (stp t (nx:Int) (b:Int) g).2.2,x≠[]:=by
     rw[hs2];split
     .intro x h
      rcases List.mem_or_eq_of_mem_set h with h|h
      .exact hne x h
      .rw [h];intro q;exact ht (List.append_eq_nil_iff.1 q).2
     .intro x h
      rcases List.mem_append.1 h with h|h
      .exact hne x h
      .rw [List.mem_singleton.1 h];exact ht
    have hrec:=ih f (i+1) nx _ g2 (by simp at hf;omega) (by omega) l4 s1 s2 hxne (fun h=>by omega) (fun _=>hgne) l2
    refine⟨?_,hrec.2⟩
    refine Eq.trans ?_ hrec.1
    have htl:=List.length_pos_iff.2 ht
    refine zi (by simp;omega) (zd ⟨by omega,by omega⟩ (zg (by simpa[zdD]using ht) (zd (fun _=>⟨by omega,by simp[zdD];omega⟩) (zd (fun _=>⟨by omega,by simp[zdD];omega⟩) ?_))))
    show zi1 F f (b:Int) (L.map zdD) (i:Int) t (decide ((i:Int)>(0:Int))&&(((((t.getD ((0:Int)).toNat 0).toNat:Int)==(32:Int)))||(((t.getD ((0:Int)).toNat 0).toNat:Int)==(9:Int)))) g=_
    have h7:∀ g':List (List UInt8),zfF F f (b:Int) (L.map zdD) (i:Int) g'=zdN F f (b:Int) (L.map zdD) ((i+1:Nat):Int) g':=by
     intro g'
     rw[zrW]
     refine zd (by unfold zh;omega) ?_
     rw[show(i:Int)+1=((i+1:Nat):Int) by omega]
    rw[zfl ht,zrX,hs2]
    by_cases hc:g≠[]/\zaK t=true
    .have hgl:=List.length_pos_iff.2 hc.1
     have hi0:0<i:=Nat.pos_of_ne_zero fun h=>hc.1 (h0 h)
     have hlast:=hx _ (yi (show g.length-1<g.length by omega) [])
     have e:((g.length:Int)-1).toNat=g.length-1:=by omega
     rw[if_pos hc,hc.2,Bool.and_true,e]
     refine zi (by simp;omega) (zd (by unfold zh;omega) (zd (by unfold zh;omega) (zd ⟨by omega,by omega⟩ (zd (by omega) (zd (by unfold zaW;omega) (zd ⟨by omega,by omega⟩ (zd (by omega) ?_)))))))
     exact h7 _
    .rw [if_neg hc]
     refine zg ?_ (zd (by simp;omega) (h7 _))
     cases hb2:zaK t with
     | false=>rw[Bool.and_false]
     | true=>
      have hg0:g=[]:=Classical.byContradiction fun q=>hc ⟨q,hb2⟩
      have:i=0:=by
       refine Classical.byContradiction fun q=>?_
       exact h1 (Nat.pos_of_ne_zero q) hg0
      rw[this];rfl
theorem zAa(s:List UInt8)(a b:Int)(hs:s.length<=1000000):∃ z,zqn 1000003 s a b=some (z,[])/\∀ (γ:Nat->Option G) (M:Mem) (v:Value),zp γ M z v->zp γ M (.tup [.p (.list 2 (.dat (.pair .str .str) (zU s a b).1)),.p (.int .i64 (zU s a b).2)]) v:=by
 rw[zyt]
 by_cases hbad:a<0\/b>s.length\/a>b
 .have hsp:zU s a b=([],a):=by unfold zU;rw[if_pos hbad]
  rw[hsp]
  refine⟨_,zi (by simp only[Bool.or_eq_true,decide_eq_true_eq];omega) rfl,fun γ M v h=>zp.tup_head (fun _ h=>zp.nil_list rfl h) h⟩
 .obtain ⟨na,rfl⟩:∃ n:Nat,a=n:=⟨a.toNat,by omega⟩
  obtain⟨nb,rfl⟩:∃ n:Nat,b=n:=⟨b.toNat,by omega⟩
  have hsp:zU s (na:Int) (nb:Int)=(zaf (yA (yp s na nb) (nb:Int) []).1,(yA (yp s na nb) (nb:Int) []).2):=by unfold zU;rw[if_neg hbad,Int.toNat_natCast,Int.toNat_natCast]
  rw[hsp]
  obtain⟨k1,k2⟩:=zg9 (s:=s) (b:=nb) (by omega) (nb-na) na rfl (by omega)
  obtain⟨z1,z2,z3⟩:=znG 1000003 nb (by omega) (yp s na nb) (by omega) (yp s na nb) 1000003 0 na [] rfl (by omega) (by omega) k1 (by simp) (by simp) (by simp) (fun _=>rfl) (fun h=>by omega) (by omega)
  refine⟨_,zg (by simp only[Bool.or_eq_false_iff,decide_eq_false_iff_not];omega) (zd ⟨by omega,by omega,by omega,hs⟩ ?_),fun γ M v h=>h⟩
  have hls:zlO s (na:Int) (nb:Int)=(yp s na nb).map zdD:=by unfold zlO;rw[Int.toNat_natCast,Int.toNat_natCast]
  rw[hls]
  refine z1.trans ?_
  rw[zr0]
  exact znF 1000003 _ _ (by omega) (fun x hx=>⟨(z3 x hx).1,by have:=(z3 x hx).2;omega⟩) _ 1000003 0 [] rfl (by omega) (by omega) (by simp)
def zdl:List AV->Option (AV×Option Prop)
 | [.p (.str s),.p (.int .i64 a),.p (.int .i64 b)]=>some (.tup [.p (.list 2 (.dat (.pair .str .str) (zU s a b).1)),.p (.int .i64 (zU s a b).2)],some (s.length<=1000000))
 | _=>none
theorem ziG:zn Tryz.prog 53 zdl:=by
 intro zs r ok he hok
 unfold zdl at he
 split at he
 .rename_i s a b
  cases he
  obtain⟨z,h1,h2⟩:=zAa s a b hok
  exact⟨by kernel_rfl,(zAU 1000003 _ _ _ _ fun _=>h1).weak fun M v h=>h2 _ _ v h⟩
 .cases he
def zdo(s:List UInt8):List UInt8:=if zaS s=true then s else zac s
def zBv:=mkG [(75,zgU),(77,zo3)] [(76,ze7),(78,zfd)] 21 [] [([0,1,0,1,1,1],⟨[0,3,9,10],[⟨.slot 3,3,.cells []⟩,⟨.cell 3 1,4001,(.barr 5 false [])⟩]⟩)] [([1,0,0,1,1,0,0,1,0,1,1,1],[5]),([0,1,1,1,1],[0])]
def zka(F f1:Nat)(s:List UInt8)(vi1 vi2:Int)(vb3:List UInt8):=zH zBv Tryz.f48 F [] [1,1,1,0,1,0] f1 [(0,pS s),(3,.ref 3 0),(9,pI vi1),(10,pI vi2)] [(3,.bldr 124 (.arr 4001)),(4001,.barr 5 false vb3)]
def zBG(F:Nat)(s:List UInt8):=zF zBv Tryz.f48 F [pS s]
theorem zmV(F f1 s vi1 vi2 vb3):letI A:=((s.getD vi2.toNat 0).toNat:Int);zka F (f1+1) s vi1 vi2 vb3=cond (decide (vi2<vi1)) (ze (0<=vi2/\vi2<(s.length:Int)) (ze (-1000000000000<=A/\A<=1000000000000) (ze (vb3.length+(zdt A).length<=140737488355328) (ze (zh (vi2+1)) (zka F f1 s vi1 (vi2+1) (vb3++(zdt A))))))) (some (.p (.str vb3),[])):=by kernel_rfl
theorem zG4(F s):zBG F s=ze (s.length<=1000000) (cond (zaS s) (some (.p (.str s),[])) (zka F F s (s.length:Int) 0 [])):=by kernel_rfl
theorem zJX(F s r):IsP 48 (zBG F s) [.p (.str s)] r:=zG zBv rfl ⟨zsI.any,zAA.any,trivial⟩ (hr:=⟨zjm,zjp,trivial⟩)
theorem zyM(F:Nat)(s:List UInt8)(hs:s.length<=1000000):∀ (r:List UInt8) (f i:Nat) (acc:List UInt8),s.drop i=r->acc.length<=4*i->r.length<f->i<=s.length->
 zka F f s (s.length:Int) (i:Int) acc=some (.p (.str (acc++zac r)),[]):=by
 intro r
 induction r with
 | nil=>
  intro f i acc hd ha hf hi
  have:i=s.length:=by have:=congrArg List.length hd;simp at this;omega
  cases f with
  | zero=>omega
  | succ f=>
   rw[zmV]
   refine zea ?_
   simp[zac]
 | cons c r ih=>
  intro f i acc hd ha hf hi
  obtain⟨h1,h2,h3⟩:=yg hd
  cases f with
  | zero=>omega
  | succ f=>
   have hlt:=c.toNat_lt
   have hl:=zjl (c.toNat:Int)
   rw[zmV]
   refine zd9 ?_
   refine zy ?_
   rw[Int.toNat_natCast,h1]
   refine zy ?_
   refine zd (by omega) ?_
   refine zy ?_
   have e:(i:Int)+1=((i+1:Nat):Int):=by omega
   rw[e,ih f (i+1) _ h2 (by simp;omega) (by simp at hf;omega) (by omega)]
   simp[zac]
theorem zIg(s:List UInt8)(hs:s.length<=1000000):zBG (s.length+1) s=some (.p (.str (zdo s)),[]):=by
 rw[zG4,zdo]
 refine zd hs ?_
 cases hv:zaS s with
 | true=>rfl
 | false=>exact zyM _ s hs s (s.length+1) 0 [] rfl (by simp) (by omega) (by omega)
def zoC:List AV->Option (AV×Option Prop)
 | [.p (.str s)]=>some (.p (.str (zdo s)),some (s.length<=1000000))
 | _=>none
theorem zIR:zn Tryz.prog 48 zoC:=by
 intro zs r ok he hok
 unfold zoC at he
 split at he
 .cases he;exact⟨by kernel_rfl,zJX (_) _ _ fun hx=>zIg _ hok⟩
 .cases he
def zEm:=mkG [(34,zi8)] [] 10 [] [] []
def zvT(F:Nat)(s:List UInt8):=zF zEm Tryz.f47 F [pS s]
theorem zCk(F s):letI A:=zU s 0 (s.length:Int);zvT F s=ze (s.length<=1000000) (some (.tup [.p (.list 2 (.dat (.pair .str .str) A.1)),.p (.int .i64 A.2)],[])):=by kernel_rfl
theorem zGr(F s r):IsP 47 (zvT F s) [.p (.str s)] r:=zG zEm rfl ⟨zxb.any,trivial⟩
theorem zGx(s:List UInt8)(hs:s.length<=1000000):zvT 0 s=some (.tup [.p (.list 2 (.dat (.pair .str .str) (zU s 0 (s.length:Int)).1)),.p (.int .i64 (zU s 0 (s.length:Int)).2)],[]):=by
 rw[zCk];exact zd hs rfl
def zlx:List AV->Option (AV×Option Prop)
 | [.p (.str s)]=>some (.tup [.p (.list 2 (.dat (.pair .str .str) ((zU s 0 (s.length:Int)).1))),.p (.int .i64 ((zU s 0 (s.length:Int)).2))],some (s.length<=1000000))
 | _=>none
theorem zFI:zn Tryz.prog 47 zlx:=by
 intro zs r ok he hok
 unfold zlx at he
 split at he
 .cases he;exact⟨by kernel_rfl,zGr 0 _ _ fun hx=>zGx _ hok⟩
 .cases he
theorem zpN:∀ (L:List (Nat×List UInt8×Nat)) (body:Int) (g:List (List UInt8)),(yA L body g).1.length<=g.length+L.length
 | [],body,g=>by rw[yA];simp
 | (i,t,nx)::r,body,g=>by
  rw[yA]
  split
  .simp
  .split
   .have:=zpN r body (g.set (g.length-1) (g.getD (g.length-1) []++t));simp at this ⊢;omega
   .have:=zpN r body (g++[t]);simp at this ⊢;omega
theorem zow(s:List UInt8)(a b:Int):(zU s a b).1.length<=s.length:=by
 unfold zU
 split
 .simp
 .rename_i h
  have h1:=(zg9 (s:=s) (b:=b.toNat) (by omega) (b.toNat-a.toNat) a.toNat rfl (by omega)).2
  have h2:=zpN (yp s a.toNat b.toNat) b []
  have h3:∀ l:List (List UInt8),(zaf l).length<=l.length:=fun l=>by unfold zaf;exact List.length_filterMap_le _ _
  have h4:=h3 (yA (yp s a.toNat b.toNat) b []).1
  simp at h2
  show(zaf _).length<=_
  omega
theorem zuP:∀ (L:List (Nat×List UInt8×Nat)) (x y:Nat) (body:Int) (g:List (List UInt8)),zJs x y L->(∀ t ∈ g,t.length<=x)->∀ t ∈ (yA L body g).1,t.length<=y
 | [],x,y,body,g,h,hg=>fun t ht=>Nat.le_trans (hg t ht) h
 | (i,t,nx)::r,x,y,body,g,h,hg=>by
  obtain⟨l1,l2,l3,l4⟩:=h
  rw[yA]
  split
  .exact fun u hu=>by have:=hg u hu;omega
  .split
   .rename_i h2
    have hgl:=List.length_pos_iff.2 h2.1
    have h1:=hg _ (yi (show g.length-1<g.length by omega) [])
    refine zuP r nx y body _ l4 fun u hu=>?_
    rcases List.mem_or_eq_of_mem_set hu with hu|hu
    .have:=hg u hu;omega
    .rw [hu,List.length_append];omega
   .refine zuP r nx y body _ l4 fun u hu=>?_
    rcases List.mem_append.1 hu with hu|hu
    .have:=hg u hu;omega
    .rw [List.mem_singleton.1 hu];omega
theorem zcp(s:List UInt8)(a b:Int):∀ x ∈ (zU s a b).1,x.1.length<=s.length/\x.2.length<=s.length:=by
 unfold zU
 split
 .intro x hx;cases hx
 .rename_i h
  have h1:=(zg9 (s:=s) (b:=b.toNat) (by omega) (b.toNat-a.toNat) a.toNat rfl (by omega)).1
  have h2:=zuP _ _ _ b [] h1 (by simp)
  intro x hx
  unfold zaf at hx
  obtain⟨t,ht,he⟩:=List.mem_filterMap.1 hx
  split at he
  .cases he
   have hl:=h2 t ht
   have hc:=zjN t 58
   have hb:=zor (yv t 58).2.1
   unfold zbS
   dsimp only
   omega
  .cases he
theorem ziO{l:List (List UInt8×List UInt8)}{n:List UInt8}{k:Nat}(h:∀ x ∈ l,x.2.length<=k):(yf l n).1.length<=k:=by
 induction l with
 | nil=>simp[yf]
 | cons x r ih=>
  rw[yf]
  split
  .exact h x (by simp)
  .exact ih fun y hy=>h y (List.mem_cons_of_mem _ hy)
theorem zlU:∀ (L:List (Nat×List UInt8×Nat)) (x y:Nat) (g:List (List UInt8)),zJs x y L->x<=y->(x:Int)<=(yA L (y:Int) g).2/\(yA L (y:Int) g).2<=y
 | [],x,y,g,h,h1=>by rw[yA];dsimp only;omega
 | (i,t,nx)::r,x,y,g,h,h1=>by
  obtain⟨l1,l2,l3,l4⟩:=h
  rw[yA]
  split
  .dsimp only;omega
  .split
   .have:=zlU r nx y (g.set (g.length-1) (g.getD (g.length-1) []++t)) l4 l2;omega
   .have:=zlU r nx y (g++[t]) l4 l2;omega
theorem zx3(s:List UInt8):0<=(zU s 0 (s.length:Int)).2/\(zU s 0 (s.length:Int)).2<=(s.length:Int):=by
 unfold zU
 rw[if_neg (by omega),Int.toNat_natCast,show((0:Int)).toNat=0 from rfl]
 exact zlU _ 0 s.length [] (zg9 (s:=s) (b:=s.length) (by omega) (s.length-0) 0 rfl (by omega)).1 (by omega)
theorem zPF(s:List UInt8):∀ (f i:Nat),(zl0 f s i).length<=12*(s.length-i):=by
 intro f
 induction f with
 | zero=>intro i;simp[zl0]
 | succ f ih=>
  intro i
  rw[zl0]
  split
  .rename_i hi
   cases ho:zfh s i with
   | none=>have:=ih (i+1);simp only[List.length_cons];omega
   | some p=>
    obtain⟨t,n⟩:=p
    obtain⟨_,h1,h2,_,_,h3⟩:=za7 ho
    have h4:=zjP h2
    have:=ih (za2 s n)
    simp only[List.length_append];omega
  .simp
theorem zex(s:List UInt8):(zcm s).length<=12*s.length:=zPF s _ 0
abbrev zQN:List UInt8:=[115,117,98,106,101,99,116]
def zf4(s:List UInt8):List UInt8:=(yf (zU s 0 (s.length:Int)).1 zQN).1
def zbH(s:List UInt8):List UInt8:=zdo (zcm (zf4 s))
theorem zdV{s:List UInt8}(hs:s.length<=1000000){n:List UInt8}(hn:n.length<=100):za8 (zU s 0 (s.length:Int)).1 n:=by
 have h1:=zow s 0 (s.length:Int)
 exact⟨by omega,fun x hx=>by have:=(zcp s 0 (s.length:Int) x hx).1;omega,by omega⟩
theorem zlb(s:List UInt8):(zf4 s).length<=s.length:=ziO fun x hx=>(zcp s 0 (s.length:Int) x hx).2
def zqg:=mkG [(45,zf9),(47,zlx),(48,zoC),(49,znJ)] [] 20 [] [([1,1,1],⟨[5],[]⟩)] []
def zqJ(F:Nat)(vs1:List UInt8):=zx zqg Tryz.f28 F [] [1,1,1] [(5,pS vs1)] []
def zql(F:Nat)(s:List UInt8):=zF zqg Tryz.f28 F [pS s]
theorem zrQ(F vs1):zqJ F vs1=ze (vs1.length<=100000) (ze ((zcm vs1).length<=1000000) (some (.p (.str (zdo (zcm vs1))),[]))):=by kernel_rfl
theorem zyp(F s):letI A:=([115,117,98,106,101,99,116]:List UInt8);letI B:=zU s 0 (s.length:Int);zql F s=ze (s.length<=1000000) (ze (za8 B.1 A) (zqJ F (yf B.1 A).1)):=by kernel_rfl
theorem zAR(F s r):IsP 28 (zql F s) [.p (.str s)] r:=zG zqg rfl ⟨zpq.any,zFI.any,zIR.any,zDm.any,trivial⟩
theorem zzP(s:List UInt8)(hs:s.length<=50000):zql 0 s=some (.p (.str (zbH s)),[]):=by
 have h1:=zlb s
 have h2:=zex (zf4 s)
 rw[zyp]
 refine zd (by omega) (zd (zdV (by omega) (by simp)) ?_)
 rw[zrQ]
 exact zd (by show(zf4 s).length<=_;omega) (zd (by show(zcm (zf4 s)).length<=_;omega) rfl)
def ze8:List AV->Option (AV×Option Prop)
 | [.p (.str s)]=>some (.p (.str (zbH s)),some (s.length<=50000))
 | _=>none
theorem zpo:zn Tryz.prog 28 ze8:=by
 intro zs r ok he hok
 unfold ze8 at he
 split at he
 .cases he;exact⟨by kernel_rfl,zAR 0 _ _ fun hx=>zzP _ hok⟩
 .cases he
theorem zvb{c:Ec}{f:Nat->PV}{x:Elt c}(h:zT c (zK f (wid c) 0)=some x){M:Mem}{v:Value}(hv:zp γ0 M (.p (.box (wid c) f)) v):zp γ0 M (.p (.box (wid c) (cell c x))) v:=.p _ _ (zPP h hv.p_inv)
theorem zj6{P:Program}{f:FuncId}{args args':List AV}{r:AV}(h:∀ (M:Mem) (vs:List Value),zB γ0 M args vs->zB γ0 M args' vs)(k:FnP P f args' r):FnP P f args r:=
 fun M w vs hM hvs=>k M w vs hM (h M vs hvs)
abbrev zq:=Int×Int×List UInt8×Int×List (List UInt8)×List (Int×Int)×Int×Int
abbrev yd:=zq×List (List UInt8×List UInt8)×List UInt8
abbrev zk:=yd×List UInt8×List UInt8
abbrev zr:=Int×Int×List UInt8×List UInt8×List (Int×Int)×List Int
abbrev zE:Ec:=.pair (.int .i64) (.pair (.int .i64) (.pair .str (.pair (.int .i64) (.pair (.list .str) (.pair (.list (.pair (.int .i64) (.int .i64))) (.pair (.int .i64) (.int .i64)))))))
abbrev zD:Ec:=.pair zE (.pair (.list (.pair .str .str)) .str)
abbrev zt:Ec:=.pair (.box zD) (.pair .str .str)
abbrev zu:Ec:=.pair (.int .i64) (.pair (.int .i64) (.pair .str (.pair .str (.pair (.list (.pair (.int .i64) (.int .i64))) (.list (.int .i64))))))
def zbX(m:zq):yd:=(m,(zU m.2.2.1 0 (m.2.2.1.length:Int)).1,m.2.2.1.drop (zU m.2.2.1 0 (m.2.2.1.length:Int)).2.toNat)
def zEg:=mkG [(34,zi8)] [] 22 [] [] [([888888,1,1,1],[21,72])]
def zvR(F:Nat)(id th:Int)(tx:List UInt8)(at_:Int)(ke:List (List UInt8))(me:List (Int×Int))(mo bo:Int):=zF zEg Tryz.f22 F [.agg [pI id,pI th,pS tx,pI at_,pL 1 .str ke,pL 2 (.pair (.int .i64) (.int .i64)) me,pI mo,pI bo]]
theorem zB5(F id th tx at_ ke me mo bo):letI A:=zU tx 0 (tx.length:Int);zvR F id th tx at_ ke me mo bo=ze (tx.length<=1000000) (ze (0<=A.2/\A.2<=(tx.length:Int)) (some (.p (.box 10 (cell zD ((id,(th,(tx,(at_,(ke,(me,(mo,bo))))))),(A.1,tx.drop A.2.toNat)))),[]))):=by kernel_rfl
theorem zGm(F id th tx at_ ke me mo bo r):IsP 22 (zvR F id th tx at_ ke me mo bo) [.agg [.p (.int .i64 id),.p (.int .i64 th),.p (.str tx),.p (.int .i64 at_),.p (.list 1 (.dat .str ke)),.p (.list 2 (.dat (.pair (.int .i64) (.int .i64)) me)),.p (.int .i64 mo),.p (.int .i64 bo)]] r:=zG zEg rfl ⟨zxb.any,trivial⟩
theorem zFo(id th:Int)(tx:List UInt8)(at_:Int)(ke:List (List UInt8))(me:List (Int×Int))(mo bo:Int)(h:tx.length<=1000000):zvR 0 id th tx at_ ke me mo bo=some (.p (.box 10 (cell zD (zbX (id,th,tx,at_,ke,me,mo,bo)))),[]):=by
 rw[zB5]
 exact zd h (zd (zx3 tx) rfl)
def zgY:List AV->Option (AV×Option Prop)
 | [.agg [.p (.int .i64 id),.p (.int .i64 th),.p (.str tx),.p (.int .i64 at_),.p (.list 1 (.dat .str ke)),.p (.list 2 (.dat (.pair (.int .i64) (.int .i64)) me)),.p (.int .i64 mo),.p (.int .i64 bo)]]=>some (.p (.box 10 (cell zD (zbX (id,th,tx,at_,ke,me,mo,bo)))),some (tx.length<=1000000))
 | _=>none
theorem zsM:zn Tryz.prog 22 zgY:=by
 intro zs r ok he hok
 unfold zgY at he
 split at he
 .cases he;exact⟨by kernel_rfl,zGm 0 _ _ _ _ _ _ _ _ _ fun hx=>zFo _ _ _ _ _ _ _ _ hok⟩
 .cases he
def zLI:=mkG [(45,zf9),(46,zlC)] [] 30 [] [] []
def zMW(F:Nat)(m:zq)(b:List UInt8):=zF zLI Tryz.f26 F [.p (.box 10 (cell zD (m,([]:List (List UInt8×List UInt8)),b)))]
theorem zHu(F m b):zMW F m b=ze (za8 ([]:List (List UInt8×List UInt8)) ([102,114,111,109]:List UInt8)) (some (.p (.str ([]:List UInt8)),[])):=by kernel_rfl
theorem zKj(F m b r):IsP 26 (zMW F m b) [.p (.box 10 (cell zD (m,([]:List (List UInt8×List UInt8)),b)))] r:=zG zLI rfl ⟨zpq.any,zFM.any,trivial⟩
def zoU:List AV->Option (AV×Option Prop)
 | [.p (.box 10 f)]=>match zT zD (zK f 10 0)with
  | some x=>some (.p (.str []),some (x.2.1=[]))
  | none=>none
 | _=>none
theorem zJa:zn Tryz.prog 26 zoU:=by
 intro zs r ok he hok
 unfold zoU at he
 split at he
 .rename_i f
  split at he
  .rename_i x hx
   cases he
   obtain⟨m,l,b⟩:=x
   have hok:l=[]:=hok
   subst hok
   refine⟨by kernel_rfl,zj6 (fun M vs h=>?_) (zKj 0 m b _ fun _=>by rw[zHu];exact zd ⟨by simp,(fun x hx=>by cases hx),by simp⟩ rfl)⟩
   cases h with|cons h1 h=>
   cases h
   exact .cons (zvb (c:=zD) hx h1) .nil
  .cases he
 .cases he
def Gnan:=mkG [] [] 6 [] [] []
def zS5(F:Nat)(x:Int):=zF Gnan Tryz.f86 F [pI x]
theorem zQg(F x):zS5 F x=some (.p (.bool (x != x)),[]):=by kernel_rfl
theorem zSq(F x r):IsP 86 (zS5 F x) [.p (.int .i64 x)] r:=zG Gnan rfl trivial
theorem zRX(x:Int):zS5 0 x=some (.p (.bool false),[]):=by rw[zQg];simp
def zzV:List AV->Option (AV×Option Prop)
 | [.p (.int .i64 x)]=>some (.p (.bool false),none)
 | _=>none
theorem zRO:zn Tryz.prog 86 zzV:=by
 intro zs r ok he hok
 unfold zzV at he
 split at he
 .cases he;exact⟨by kernel_rfl,zSq 0 _ _ fun hx=>zRX _⟩
 .cases he
def zQ9:=mkG [(86,zzV)] [] 20 [] [] []
def zNb(F:Nat)(x y:Int):=zF zQ9 Tryz.f52 F [pI x,pI y]
theorem zNa(F x y):zNb F x y=cond (decide (x<y)) (some (.p (.int .i64 (-1:Int)),[])) (cond (decide (x>y)) (some (.p (.int .i64 1),[])) (some (.p (.int .i64 0),[]))):=by kernel_rfl
theorem zPz(F x y r):IsP 52 (zNb F x y) [.p (.int .i64 x),.p (.int .i64 y)] r:=zG zQ9 rfl ⟨zRO.any,trivial⟩
def zab(x y:Int):Int:=if x<y then -1 else if x>y then 1 else 0
theorem zPL(x y:Int):zNb 0 x y=some (.p (.int .i64 (zab x y)),[]):=by
 rw[zNa,zab]
 by_cases h:x<y
 .rw [if_pos h];exact zi (by simpa using h) rfl
 .rw [if_neg h]
  refine zg (by simpa using h) ?_
  by_cases h2:x>y
  .rw [if_pos h2];exact zi (by simpa using h2) rfl
  .rw [if_neg h2];exact zg (by simpa using h2) rfl
def zjd:List AV->Option (AV×Option Prop)
 | [.p (.int .i64 x),.p (.int .i64 y)]=>some (.p (.int .i64 (zab x y)),none)
 | _=>none
theorem zuw:zn Tryz.prog 52 zjd:=by
 intro zs r ok he hok
 unfold zjd at he
 split at he
 .cases he;exact⟨by kernel_rfl,zPz 0 _ _ _ fun hx=>zPL _ _⟩
 .cases he
def zLP:=mkG [(52,zjd)] [] 41 [] [] [([888888,1],[4,65,5,65])]
def zM9(F:Nat)(pa:yd)(sa ua:List UInt8)(pb:yd)(sb ub:List UInt8):=zF zLP Tryz.f30 F [.p .nil,.agg [.p (.box 10 (cell zD pa)),pS sa,pS ua],.agg [.p (.box 10 (cell zD pb)),pS sb,pS ub]]
theorem zHC(F pa sa ua pb sb ub):zM9 (F+1) pa sa ua pb sb ub=some (.p (.int .i64 (zab pa.1.1 pb.1.1)),[]):=by kernel_rfl
theorem zKs(F pa sa ua pb sb ub r):IsP 30 (zM9 F pa sa ua pb sb ub) [.p .nil,.agg [.p (.box 10 (cell zD pa)),.p (.str sa),.p (.str ua)],.agg [.p (.box 10 (cell zD pb)),.p (.str sb),.p (.str ub)]] r:=zG zLP rfl ⟨zuw.any,trivial⟩
def zoX:List AV->Option (AV×Option Prop)
 | [.p .nil,.agg [.p (.box 10 f),.p (.str _),.p (.str _)],.agg [.p (.box 10 g),.p (.str _),.p (.str _)]]=>match zT zD (zK f 10 0),zT zD (zK g 10 0)with
  | some x,some y=>some (.p (.int .i64 (zab x.1.1 y.1.1)),none)
  | _,_=>none
 | _=>none
theorem agg3{M:Mem}{f:Nat->PV}{x:Elt zD}(h:zT zD (zK f 10 0)=some x){a b:AV}{v:Value}(hv:zp γ0 M (.agg [.p (.box 10 f),a,b]) v):zp γ0 M (.agg [.p (.box 10 (cell zD x)),a,b]) v:=by
 obtain⟨vs,rfl,hs,ht⟩:=hv.agg_inv
 refine .agg _ _ (by simpa using hs) fun i hi=>?_
 match i,hi with
 | 0,_=>exact zvb (c:=zD) h (ht 0 (by simp))
 | 1,_=>exact ht 1 (by simp)
 | 2,_=>exact ht 2 (by simp)
theorem zJg:zn Tryz.prog 30 zoX:=by
 intro zs r ok he hok
 unfold zoX at he
 split at he
 .rename_i f s1 s2 g s3 s4
  split at he
  .rename_i x y hx hy
   cases he
   refine⟨by kernel_rfl,zj6 (fun M vs h=>?_) (zKs 1 x s1 s2 y s3 s4 _ fun _=>by rw[zHC])⟩
   cases h with|cons h1 h=>
   cases h with|cons h2 h=>
   cases h with|cons h3 h=>
   cases h
   exact .cons h1 (.cons (agg3 hx h2) (.cons (agg3 hy h3) .nil))
  .cases he
 .cases he
end Go.Proofs.YtampckbjinodgaaGreatDoor
