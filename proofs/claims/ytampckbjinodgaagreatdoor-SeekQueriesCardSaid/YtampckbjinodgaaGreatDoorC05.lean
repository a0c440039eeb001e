/-
  Lifted functions, and facts about them.
-/
import Derived.Test.YtampckbjinodgaaGreatDoorRows
import Derived.Test.YtampckbjinodgaaGreatDoorC01
import Derived.Test.YtampckbjinodgaaGreatDoorAmC
import Derived.Test.YtampckbjinodgaaGreatDoorC04
import Derived.Test.YtampckbjinodgaaGreatDoorC02
import Derived.Shelf.Strings.SlTrimAscii
import Derived.ShutString
import Derived.RangeFuncRecord
import Derived.RangeFuncLeaves
set_option linter.unusedVariables false
noncomputable section
namespace Go.Proofs.YtampckbjinodgaaGreatDoor
open Go Go.Am
def zfh(s:List UInt8)(i:Nat):Option (List UInt8×Nat):=if(zgg s (i:Int)).2.2=true then some ((zgg s (i:Int)).1,(zgg s (i:Int)).2.1.toNat) else none
def za2(s:List UInt8)(n:Nat):Nat:=if blN s n<s.length/\(zfh s (blN s n)).isSome=true then blN s n else n
def zl0:Nat->List UInt8->Nat->List UInt8
 | 0,_,_=>[]
 | f + 1, s, i => if i < s.length then
     match zfh s i with
     | none=>s.getD i 0::zl0 f s (i+1)
     | some (t,n)=>t++zl0 f s (za2 s n)
  else[]
def dec(s:List UInt8)(i:Nat):List UInt8:=zl0 (s.length-i+1) s i
def zcm(s:List UInt8):List UInt8:=dec s 0
theorem ziT:∀ u:List UInt8,(zac u).length<=4*u.length
 | []=>by simp[zac]
 | c::r=>by
  have:=ziT r
  have h:=zjl (c.toNat:Int)
  unfold zac at *
  rw[List.flatMap_cons,List.length_append,List.length_cons];omega
theorem zGQ{k:UInt8}{t u:List UInt8}(h:zh9 k t=some u):u.length<=3*t.length+2:=by
 unfold zh9 at h
 split at h
 .cases h;exact zfi t 0 0
 .split at h
  .cases h
   have:=zpf _ (zb5 t 95 32) (Nat.le_refl _)
   rw[znR]at this;omega
  .cases h
theorem zE0(c u:List UInt8):(zct c u).1.length<=4*u.length:=by
 unfold zct
 split
 .simp;omega
 .split
  .exact ziT u
  .simp
theorem zAm{s:List UInt8}{i a b:Nat}(h:zmt s i=some (a,b)):i+3<=a/\a+3<=b/\b+2<=s.length/\s.getD i 0=61:=by
 unfold zmt at h
 split at h
 .cases h
 .rename_i c1
  split at h
  .cases h
  .rename_i c2
   split at h
   .cases h
   .rename_i c3
    cases h
    have c1':zbD (s.drop i) zjh=true:=by simpa using c1
    have c3':zbD (s.drop (zcu s (zcu s (i+2)+3))) zjg=true:=by simpa using c3
    have h1:=zpK c1'
    have h3:=zpK c3'
    simp only[List.length_drop,List.length_cons,List.length_nil]at h1 h3
    have r1:=zg3 (s:=s) (i:=i+2) (by omega)
    have n1:zcu s (i+2)≠i+2:=fun e=>c2 (.inl e)
    have n2:¬ s.length<zcu s (i+2)+3:=fun e=>c2 (.inr (.inl e))
    have r2:=zg3 (s:=s) (i:=zcu s (i+2)+3) (by omega)
    refine⟨by omega,by omega,by omega,?_⟩
    unfold zbD at c1'
    rw[beq_iff_eq]at c1'
    have:=zeA (s:=s) (j:=i) (m:=1) (by omega)
    rw[show zjh.length=1+1 from rfl,this]at c1'
    exact(List.cons.inj c1').1
theorem za7{s:List UInt8}{i:Nat}{t:List UInt8}{n:Nat}(h:zfh s i=some (t,n)):zgg s (i:Int)=(t,(n:Int),true)/\i+8<=n/\n<=s.length/\s.getD i 0=61/\t.length+8*i<=12*n+8*i/\t.length<=12*(n-i):=by
 unfold zfh at h
 split at h
 .rename_i hok
  cases h
  unfold zgg at *
  rw[show((i:Int)).toNat=i from rfl]at *
  cases hp:zmt s i with
  | none=>rw[hp]at hok;cases hok
  | some p=>
   obtain⟨a,b⟩:=p
   obtain⟨h1,h2,h3,h4⟩:=zAm hp
   rw[hp]at hok
   dsimp only at hok ⊢
   cases hb:zh9 (s.getD (a+1) 0) ((s.take b).drop (a+3))with
   | none=>rw[hb]at hok;cases hok
   | some u=>
    rw[hb]at hok
    dsimp only at hok ⊢
    have l1:=zGQ hb
    have l2:=zE0 ((s.take a).drop (i+2)) u
    have l3:((s.take b).drop (a+3)).length<=b-(a+3):=by simp;omega
    rw[hok]
    refine⟨rfl,?_,?_,h4,?_,?_⟩ <;> rw[show(((b+2:Nat):Int)).toNat=b+2 from rfl] <;> omega
 .cases h
theorem zlL{s:List UInt8}{i:Nat}(h:zfh s i=none):(zgg s (i:Int)).2.2=false:=by
 unfold zfh at h
 split at h
 .cases h
 .rename_i hok;simpa using hok
theorem zjP{s:List UInt8}{n:Nat}(h:n<=s.length):n<=za2 s n/\za2 s n<=s.length:=by
 have:=zK8 h
 unfold za2
 split <;> omega
theorem zDR(s:List UInt8):∀ (f g i:Nat),s.length-i<f->s.length-i<g->zl0 f s i=zl0 g s i:=by
 intro f
 induction f with
 | zero=>intro g i h;omega
 | succ f ih=>
  intro g i hf hg
  cases g with
  | zero=>omega
  | succ g=>
   rw[zl0,zl0]
   by_cases hi:i<s.length
   .rw [if_pos hi,if_pos hi]
    cases ho:zfh s i with
    | none=>dsimp only;rw[ih g (i+1) (by omega) (by omega)]
    | some p=>
     obtain⟨t,n⟩:=p
     obtain⟨_,h1,h2,_⟩:=za7 ho
     have:=zjP h2
     dsimp only
     rw[ih g (za2 s n) (by omega) (by omega)]
   .rw [if_neg hi,if_neg hi]
theorem zu4{s:List UInt8}{i:Nat}(h:s.length<=i):dec s i=[]:=by rw[dec,zl0,if_neg (by omega)]
theorem zjM{s:List UInt8}{i:Nat}(h:i<s.length)(ho:zfh s i=none):dec s i=s.getD i 0::dec s (i+1):=by
 rw[dec,zl0,if_pos h,ho]
 dsimp only
 rw[dec,zDR s (s.length-i) (s.length-(i+1)+1) (i+1) (by omega) (by omega)]
theorem zpX{s:List UInt8}{i n:Nat}{t:List UInt8}(h:i<s.length)(ho:zfh s i=some (t,n)):dec s i=t++dec s (za2 s n):=by
 obtain⟨_,h1,h2,_⟩:=za7 ho
 have:=zjP h2
 rw[dec,zl0,if_pos h,ho]
 dsimp only
 rw[dec,zDR s (s.length-i) (s.length-(za2 s n)+1) (za2 s n) (by omega) (by omega)]
def zLp:=mkG [(79,zzU),(81,zzR)] [(76,ze7),(78,zfd),(80,zox)] 51 [] [([0,0,1,1,1,0,1],⟨[0,3,4],[⟨.slot 3,3,.cells []⟩,⟨.cell 3 1,4001,(.barr 5 false [])⟩]⟩)] [([0,0,1,0,1,0,1,0,0,0,1,1,1,0,1],[3]),([0,1,1,0,1,0,0,0,1,1,1,0,1],[1]),([0,1,1,1,1,0,1],[0])]
def zfB(F f1:Nat)(s:List UInt8)(vi1:Int)(vb2:List UInt8):=zH zLp Tryz.f49 F [] [1,0,1,1,1,0,0] f1 [(0,pS s),(3,.ref 3 0),(4,pI vi1)] [(3,.bldr 124 (.arr 4001)),(4001,.barr 5 false vb2)]
def zLX(F:Nat)(s:List UInt8):=zF zLp Tryz.f49 F [pS s]
theorem zCC(F f1 s vi1 vb2):letI A:=zgg s vi1;letI B:=zvc s A.2.1;letI C:=zfB F f1 s A.2.1 (vb2++A.1);letI D:=(s.length:Int);zfB F (f1+1) s vi1 vb2=cond (decide (vi1<D)) (ze (zaO s vi1) (cond (!A.2.2) (ze (0<=vi1/\vi1<D) (ze (vb2.length+1<=140737488355328) (ze (zh (vi1+1)) (zfB F f1 s (vi1+1) (vb2++[UInt8.ofNat ((s.getD vi1.toNat 0).toNat:Int).toNat]))))) (ze (vb2.length+A.1.length<=140737488355328) (ze (zaO s A.2.1) (cond (decide (B<D)) (ze (zaO s B) (cond (zgg s B).2.2 (zfB F f1 s B (vb2++A.1)) C)) C))))) (some (.p (.str vb2),[])):=by kernel_rfl
theorem zLW(F s):zLX F s=zfB F F s 0 []:=by kernel_rfl
theorem zOY(F s r):IsP 49 (zLX F s) [.p (.str s)] r:=zG zLp rfl ⟨ok_one.any,zRL.any,trivial⟩ (hr:=⟨zjm,zjp,zIN,trivial⟩)
def zl5:=mkG [(154,zoI)] [] 52 [] [([0,1,0,1,1,1],⟨[0,3,4,5],[⟨.slot 3,3,(.barr 5 true [])⟩]⟩),([1,0,1,0,1,0,1,0,0,1,0,1,1,1],⟨[0,3,6,7],[⟨.slot 3,3,(.barr 5 true [])⟩]⟩),([1,0,1,1,1,0,1,0,0,1,0,1,1,1],⟨[0,3,4,5,47],[⟨.slot 3,3,(.barr 5 true [])⟩]⟩),([1,1,1,1,0,1,0,0,1,0,1,1,1],⟨[0,3,4,5],[⟨.slot 3,3,(.barr 5 true [])⟩]⟩)] [([0,1,0,0,1,0,1,0,1,0,0,1,0,1,1,1],[2])]
def zcE(F f1:Nat)(s:List UInt8)(vi1 vi2:Int)(vb3:List UInt8):=zH zl5 Tryz.f125 F [] [1,1,1,0,1,0] f1 [(0,pS s),(3,.arr 3),(4,pI vi1),(5,pI vi2)] [(3,.barr 5 true vb3)]
def zj7(F f1:Nat)(s vs4:List UInt8)(vi5:Int)(vb6:List UInt8):=zx zl5 Tryz.f125 F [f1] [1,1,1,0,1,0,0,1,0,1,0,1,0,1] [(0,pS s),(3,.arr 3),(6,pS vs4),(7,pI vi5)] [(3,.barr 5 true vb6)]
def zqz(F f1:Nat)(s:List UInt8)(vi1 vi2:Int)(vc7:Bool)(vb8:List UInt8):=zx zl5 Tryz.f125 F [f1] [1,1,1,0,1,0,0,1,0,1,1,1,0,1] [(0,pS s),(3,.arr 3),(4,pI vi1),(5,pI vi2),(47,pB vc7)] [(3,.barr 5 true vb8)]
def zgC(F f1:Nat)(s:List UInt8)(vi9 vi2:Int)(vb8:List UInt8):=zx zl5 Tryz.f125 F [f1] [1,1,1,0,1,0,0,1,0,1,1,1,1] [(0,pS s),(3,.arr 3),(4,pI vi9),(5,pI vi2)] [(3,.barr 5 true vb8)]
def zBC(F:Nat)(s:List UInt8):=zF zl5 Tryz.f125 F [pS s]
theorem zcD(F f1 s vi1 vi2 vb3):letI A:=((s.getD vi2.toNat 0).toNat:Int);letI B:=(s.length:Int);letI C:=zpl s vi2;letI D:=0<=vi2/\vi2<B;zcE F (f1+1) s vi1 vi2 vb3=cond (decide (vi2<B)) (ze (zaO s vi2) (cond C.2.2 (cond (decide (vi1>=0)) (ze (0<=vi1/\vi1<=(vb3.length:Int)) (zj7 F f1 s C.1 C.2.1 (vb3.take vi1.toNat))) (zj7 F f1 s C.1 C.2.1 vb3)) (ze D (ze ((vb3.length+[UInt8.ofNat A.toNat].length)*1<=140737488355328) (ze D (ze ((A != 32)=true->0<=vi2/\vi2<B) (zqz F f1 s vi1 vi2 ((A != 32)&&(A != 9)) (vb3++[UInt8.ofNat A.toNat])))))))) (some (.p (.str vb3),[])):=letI A:=(((s.getD vi2.toNat 0).toNat:Int) != 32)=true;Eq.trans (by kernel_rfl) (zj (zf (zj rfl (zf (zf (zf (nI A (nI A (zf (nI A (nI A rfl)))))))))) rfl)
theorem zyH(F f1 s vs4 vi5 vb6):zj7 F f1 s vs4 vi5 vb6=ze ((vb6.length+vs4.length)*1<=140737488355328) (zcE F f1 s ((vb6++vs4).length:Int) vi5 (vb6++vs4)):=by kernel_rfl
theorem zmT(F f1 s vi1 vi2 vc7 vb8):zqz F f1 s vi1 vi2 vc7 vb8=cond vc7 (zgC F f1 s (-1:Int) vi2 vb8) (zgC F f1 s vi1 vi2 vb8):=by kernel_rfl
theorem zyG(F f1 s vi9 vi2 vb8):zgC F f1 s vi9 vi2 vb8=ze (zh (vi2+1)) (zcE F f1 s vi9 (vi2+1) vb8):=by kernel_rfl
theorem zG1(F s):zBC F s=zcE F F s (-1:Int) 0 []:=by kernel_rfl
theorem zJT(F s r):IsP 125 (zBC F s) [.p (.str s)] r:=zG zl5 rfl ⟨zIX.any,trivial⟩
theorem zH4(c:UInt8):UInt8.ofNat ((c.toNat:Int)).toNat=c:=by simp
theorem zCB(F:Nat)(s:List UInt8)(hs:s.length<=100000):∀ (f i:Nat) (acc:List UInt8),s.length-i<f->i<=s.length->acc.length<=12*i->
 zfB F f s (i:Int) acc=some (.p (.str (acc++dec s i)),[]):=by
 intro f
 induction f with
 | zero=>intro i acc h;omega
 | succ f ih=>
  intro i acc hf hi ha
  rw[zCC]
  by_cases h:i<s.length
  .refine zi (by simpa using h) (zd ⟨by omega,by omega,hs⟩ ?_)
   rw[show((i:Int)).toNat=i from rfl,zH4]
   cases ho:zfh s i with
   | none=>
    rw[zlL ho]
    refine zi rfl ?_
    refine zy ?_
    refine zy ?_
    refine zy ?_
    have e:(i:Int)+1=((i+1:Nat):Int):=by omega
    rw[e,ih (i+1) _ (by omega) (by omega) (by simp;omega),zjM h ho]
    simp
   | some p=>
    obtain⟨t,n⟩:=p
    obtain⟨h1,h2,h3,_,_,h4⟩:=za7 ho
    rw[h1]
    refine zg rfl (zd (by dsimp only;omega) (zd ⟨by dsimp only;omega,by dsimp only;omega,hs⟩ ?_))
    dsimp only
    rw[show zvc s (n:Int)=(blN s n:Int) from rfl,zpX h ho]
    have hb:=zK8 h3
    have fin:∀ m,m=za2 s n->zfB F f s (m:Int) (acc++t)=some (.p (.str (acc++(t++dec s (za2 s n)))),[]):=fun m hm=>by
     have:=zjP h3
     rw[hm,ih (za2 s n) (acc++t) (by omega) (by omega) (by simp;omega),List.append_assoc]
    by_cases c1:blN s n<s.length
    .refine zi (by simpa using c1) (zd ⟨by omega,by omega,hs⟩ ?_)
     cases ho2:zfh s (blN s n)with
     | none=>
      rw[zlL ho2]
      exact zg rfl (fin n (by unfold za2;rw[if_neg (by rw[ho2];simp)]))
     | some q=>
      obtain⟨t2,n2⟩:=q
      rw[(za7 ho2).1]
      exact zi rfl (fin (blN s n) (by unfold za2;rw[if_pos ⟨c1,by rw[ho2];rfl⟩]))
    .exact zg (by simpa using c1) (fin n (by unfold za2;rw[if_neg (fun h=>c1 h.1)]))
  .refine zg (by simpa using h) ?_
   rw[zu4 (by omega)];simp
theorem zNm(s:List UInt8)(hs:s.length<=100000):zLX (s.length+1) s=some (.p (.str (zcm s)),[]):=by
 rw[zLW]
 exact zCB _ s hs (s.length+1) 0 [] (by omega) (by omega) (by simp)
def znJ:List AV->Option (AV×Option Prop)
 | [.p (.str s)]=>some (.p (.str (zcm s)),some (s.length<=100000))
 | _=>none
theorem zDm:zn Tryz.prog 49 znJ:=by
 intro zs r ok he hok
 unfold znJ at he
 split at he
 .cases he;exact⟨by kernel_rfl,zOY (_) _ _ fun hx=>zNm _ hok⟩
 .cases he
theorem zpW{s:List UInt8}{i:Nat}(h:i<s.length):s.drop i=s.getD i 0::s.drop (i+1):=by
 rw[List.drop_eq_getElem_cons h,List.getD_eq_getElem?_getD,List.getElem?_eq_getElem h];rfl
theorem zK7{s:List UInt8}{p:Nat}(h:p<s.length)(hb:zf0 (s.getD p 0)=true):blN s p=blN s (p+1):=by
 unfold blN
 rw[zpW h,List.takeWhile_cons,if_pos hb,List.length_cons];omega
theorem zK6{s:List UInt8}{p:Nat}(h:p<s.length->zf0 (s.getD p 0)=false):blN s p=p:=by
 unfold blN
 by_cases hp:p<s.length
 .rw [zpW hp,List.takeWhile_cons,if_neg (by rw[h hp];simp)];rfl
 .rw [List.drop_eq_nil_of_le (by omega)];rfl
theorem zBg{s:List UInt8}{i:Nat}(hi:i<s.length->zf0 (s.getD i 0)=false):∀ (k p:Nat),p+k=i->i<=s.length->(∀ j,p<=j->j<i->zf0 (s.getD j 0)=true)->blN s p=i:=by
 intro k
 induction k with
 | zero => intro p hp hl hb; have : p = i := by omega
           subst this;exact zK6 hi
 | succ k ih=>intro p hp hl hb;rw[zK7 (by omega) (hb p (by omega) (by omega)),ih (p+1) (by omega) hl (fun j h1 h2=>hb j (by omega) h2)]
theorem zTB{s:List UInt8}{i:Nat}(h:zf0 (s.getD i 0)=true):zfh s i=none:=by
 cases ho:zfh s i with
 | none=>rfl
 | some q=>
  obtain⟨t,n⟩:=q
  rw[(za7 ho).2.2.2.1]at h;cases h
theorem zsl{s:List UInt8}{p i:Nat}(hp:p<=i)(h:i<s.length):(s.take (i+1)).drop p=(s.take i).drop p++[s.getD i 0]:=by
 rw[List.take_add_one,List.getElem?_eq_getElem h,List.drop_append,List.getD_eq_getElem?_getD,List.getElem?_eq_getElem h]
 have:p-(s.take i).length=0:=by simp;omega
 rw[this];rfl
theorem zKM{s:List UInt8}:∀ (k p i:Nat),p+k=i->i<=s.length->(∀ j,p<=j->j<i->zf0 (s.getD j 0)=true)->dec s p=(s.take i).drop p++dec s i:=by
 intro k
 induction k with
 | zero => intro p i hp hl hb; have : p = i := by omega
           subst this;rw[List.drop_eq_nil_of_le (by rw[List.length_take];omega)];rfl
 | succ k ih=>
  intro p i hp hl hb
  rw[zjM (by omega) (zTB (hb p (by omega) (by omega))),ih (p+1) i (by omega) hl (fun j h1 h2=>hb j (by omega) h2)]
  have:(s.take i).drop p=s.getD p 0::(s.take i).drop (p+1):=by
   rw[zpW (by simp;omega)]
   congr 1
   rw[List.getD_eq_getElem?_getD,List.getD_eq_getElem?_getD,List.getElem?_take_of_lt (by omega)]
  rw[this];rfl
theorem zw8(s:List UInt8)(i:Int):(zpl s i).2.2=(zgg s i).2.2/\((zgg s i).2.2=true->zpl s i=zgg s i):=by
 unfold zpl zgg
 cases zmt s i.toNat with
 | none=>exact⟨rfl,fun h=>by cases h⟩
 | some p=>
  obtain⟨a,b⟩:=p
  dsimp only
  cases zh9 (s.getD (a+1) 0) ((s.take b).drop (a+3))with
  | none=>exact⟨rfl,fun h=>by cases h⟩
  | some u=>
   dsimp only
   unfold zct
   split
   .exact ⟨rfl,fun _=>rfl⟩
   .split
    .exact ⟨rfl,fun _=>rfl⟩
    .exact ⟨rfl,fun h=>by cases h⟩
theorem zDl{s:List UInt8}{i:Nat}{t:List UInt8}{n:Nat}(h:zfh s i=some (t,n)):zpl s (i:Int)=(t,(n:Int),true):=by
 have h1:=(za7 h).1
 rw[(zw8 s i).2 (by rw[h1]),h1]
theorem zN6{s:List UInt8}{i:Nat}(h:zfh s i=none):(zpl s (i:Int)).2.2=false:=by
 rw[(zw8 s i).1];exact zlL h
theorem zPQ(c:UInt8):(((c.toNat:Int) != (32:Int))&&((c.toNat:Int) != (9:Int)))=!zf0 c:=by
 rw[<-zxt,Bool.not_or];rfl
theorem zyF(F:Nat)(s:List UInt8)(hs:s.length<=100000):∀ (f:Nat),
 (∀ (i p:Nat) (out:List UInt8),s.length-i<f->p<=i->i<=s.length->(∀ j,p<=j->j<i->zf0 (s.getD j 0)=true)->out.length<=12*p->
  zcE F f s (out.length:Int) (i:Int) (out++(s.take i).drop p)=some (.p (.str (out++dec s (za2 s p))),[]))/\
 (∀ (i:Nat) (out:List UInt8),s.length-i<f->i<=s.length->out.length<=12*i->zcE F f s (-1:Int) (i:Int) out=some (.p (.str (out++dec s i)),[])):=by
 intro f
 induction f with
 | zero=>exact⟨fun i p out h=>by omega,fun i out h=>by omega⟩
 | succ f ih=>
  have two:∀ (n:Nat) (t out:List UInt8),s.length-n<f->n<=s.length->out.length+t.length<=12*n->zj7 F f s t (n:Int) out=some (.p (.str (out++(t++dec s (za2 s n)))),[]):=by
   intro n t out hf hn ho
   rw[zyH]
   refine zy ?_
   have:=ih.1 n n (out++t) hf (Nat.le_refl _) hn (fun j h1 h2=>by omega) (by simp;omega)
   rw[List.drop_eq_nil_of_le (by rw[List.length_take];omega),List.append_nil]at this
   rw[this,List.append_assoc]
  have four:∀ (i:Nat) (last:Int) (out:List UInt8) (r:Option Ans),i<s.length->zcE F f s last ((i+1:Nat):Int) out=r->zgC F f s last (i:Int) out=r:=by
   intro i last out r hi h
   rw[zyG]
   refine zy ?_
   exact h
  have three:∀ (i:Nat) (last:Int) (out:List UInt8) (r:Option Ans),i<s.length->zfh s i=none->out.length<=12*i->
   zqz F f s last (i:Int) (!zf0 (s.getD i 0)) (out++[s.getD i 0])=r->zcE F (f+1) s last (i:Int) out=r:=by
   intro i last out r hi ho hl h
   rw[zcD]
   refine zi (by simpa using hi) (zd ⟨by omega,by omega,hs⟩ ?_)
   rw[zN6 ho]
   refine zg rfl ?_
   refine zy ?_
   refine zy ?_
   refine zy ?_
   refine zd (fun _=>by omega) ?_
   rw[show((i:Int)).toNat=i from rfl,zH4,zPQ]
   exact h
  refine⟨fun i p out hf hp hi hb hl=>?_,fun i out hf hi hl=>?_⟩
  .have hlen:((s.take i).drop p).length=i-p:=by simp;omega
   by_cases h:i<s.length
   .cases ho:zfh s i with
    | none=>
     refine three i _ _ _ h ho (by simp;omega) ?_
     rw[zmT,List.append_assoc,<-zsl hp h]
     by_cases hbl:zf0 (s.getD i 0)=true
     .refine zg (by rw[hbl];rfl) (four i _ _ _ h ?_)
      refine ih.1 (i+1) p out (by omega) (by omega) (by omega) (fun j h1 h2=>?_) hl
      rcases Nat.lt_or_ge j i with h3|h3
      .exact hb j h1 h3
      .have:j=i:=by omega
       subst this;exact hbl
     .have hbl':zf0 (s.getD i 0)=false:=by simpa using hbl
      refine zi (by rw[hbl'];rfl) (four i _ _ _ h ?_)
      rw[ih.2 (i+1) _ (by omega) (by omega) (by simp;omega)]
      have hbN:=zBg (fun _=>hbl') (i-p) p (by omega) hi hb
      have hc:za2 s p=p:=by unfold za2;rw[if_neg (by rw[hbN,ho];simp)]
      rw[hc,zKM (i-p) p i (by omega) hi hb,zjM h ho,zsl hp h]
      simp
    | some q=>
     obtain⟨t,n⟩:=q
     obtain⟨_,h2,h3,h61,_,h4⟩:=za7 ho
     rw[zcD]
     refine zi (by simpa using h) (zd ⟨by omega,by omega,hs⟩ ?_)
     rw[zDl ho]
     refine zi rfl (zi (by simp) (zd ⟨by omega,by rw[List.length_append];omega⟩ ?_))
     rw[show((out.length:Int)).toNat=out.length from rfl,List.take_left' rfl]
     dsimp only
     rw[two n t out (by omega) h3 (by omega)]
     have hbN:=zBg (s:=s) (i:=i) (fun _=>by rw[h61];rfl) (i-p) p (by omega) hi hb
     have hc:za2 s p=i:=by unfold za2;rw[if_pos (by rw[hbN,ho];exact⟨h,rfl⟩),hbN]
     rw[hc,zpX h ho]
   .have hie:i=s.length:=by omega
    rw[zcD]
    refine zg (by simp;omega) ?_
    have hbN:=zBg (s:=s) (i:=i) (fun h'=>absurd h' h) (i-p) p (by omega) hi hb
    have hc:za2 s p=p:=by unfold za2;rw[if_neg (by rw[hbN];exact fun q=>h q.1)]
    rw[hc,zKM (i-p) p i (by omega) hi hb,zu4 (i:=i) (by omega),List.append_nil]
  .by_cases h:i<s.length
   .cases ho:zfh s i with
    | none=>
     refine three i _ _ _ h ho hl ?_
     rw[zmT]
     have fin:zgC F f s (-1:Int) (i:Int) (out++[s.getD i 0])=some (.p (.str (out++dec s i)),[]):=by
      refine four i _ _ _ h ?_
      rw[ih.2 (i+1) _ (by omega) (by omega) (by simp;omega),zjM h ho];simp
     cases !zf0 (s.getD i 0)with
     | true=>exact zi rfl fin
     | false=>exact zg rfl fin
    | some q=>
     obtain⟨t,n⟩:=q
     obtain⟨_,h2,h3,h61,_,h4⟩:=za7 ho
     rw[zcD]
     refine zi (by simpa using h) (zd ⟨by omega,by omega,hs⟩ ?_)
     rw[zDl ho]
     refine zi rfl (zg rfl ?_)
     dsimp only
     rw[two n t out (by omega) h3 (by omega),zpX h ho]
   .rw [zcD]
    refine zg (by simp;omega) ?_
    rw[zu4 (by omega),List.append_nil]
theorem zHW(s:List UInt8)(hs:s.length<=100000):zBC (s.length+1) s=some (.p (.str (zcm s)),[]):=by
 rw[zG1]
 exact(zyF _ s hs (s.length+1)).2 0 [] (by omega) (by omega) (by simp)
def zi7:List AV->Option (AV×Option Prop)
 | [.p (.str s)]=>some (.p (.str (zcm s)),some (s.length<=100000))
 | _=>none
theorem zw9:zn Tryz.prog 125 zi7:=by
 intro zs r ok he hok
 unfold zi7 at he
 split at he
 .cases he;exact⟨by kernel_rfl,zJT (_) _ _ fun hx=>zHW _ hok⟩
 .cases he
def yv(s:List UInt8)(c:UInt8):List UInt8×List UInt8×Bool:=
 if ixS s (c.toNat:Int)>=0 then(s.take (ixS s (c.toNat:Int)).toNat,s.drop ((ixS s (c.toNat:Int))+1).toNat,true) else(s,[],false)
def zQ4:=mkG [(134,zuf)] [] 23 [] [] []
def zM2(F:Nat)(s:List UInt8)(c:UInt8):=zF zQ4 Tryz.f103 F [pS s,.p (.str [c])]
theorem zM1(F s c):letI A:=ixS s (c.toNat:Int);letI B:=A+1;letI C:=(s.length:Int);zM2 F s c=cond (decide (A>=0)) (ze (0<=A/\A<=C) (ze (zh B) (ze (0<=B/\B<=C) (some (.tup [.p (.str (s.take A.toNat)),.p (.str (s.drop B.toNat)),.p (.bool true)],[]))))) (some (.tup [.p (.str s),.p (.str ([]:List UInt8)),.p (.bool false)],[])):=by kernel_rfl
theorem zPu(F s c r):IsP 103 (zM2 F s c) [.p (.str s),.p (.str [c])] r:=zG zQ4 rfl ⟨zI2.any,trivial⟩
theorem zJy(s:List UInt8)(c:Int):ixS s c<s.length\/ixS s c=-1:=zcY s c.toNat.toUInt8
theorem zPG(s:List UInt8)(c:UInt8)(hs:s.length<=1000000):zM2 0 s c=some (.tup [.p (.str (yv s c).1),.p (.str (yv s c).2.1),.p (.bool (yv s c).2.2)],[]):=by
 rw[zM1,yv]
 have h:=zJy s (c.toNat:Int)
 by_cases hc:ixS s (c.toNat:Int)>=0
 .refine zi (by simpa using hc) ?_
  rw[if_pos hc]
  refine zd (by omega) (zd (by unfold zh;omega) (zd (by omega) rfl))
 .refine zg (by simpa using hc) ?_
  rw[if_neg hc]
def zuk:List AV->Option (AV×Option Prop)
 | [.p (.str s),.p (.str [c])]=>some (.tup [.p (.str ((yv s c).1)),.p (.str ((yv s c).2.1)),.p (.bool ((yv s c).2.2))],some (s.length<=1000000))
 | _=>none
theorem zOA:zn Tryz.prog 103 zuk:=by
 intro zs r ok he hok
 unfold zuk at he
 split at he
 .cases he;exact⟨by kernel_rfl,zPu 0 _ _ _ fun hx=>zPG _ _ hok⟩
 .cases he
def Gcut:=mkG [(103,zuk)] [] 13 [] [] []
def zTc(F:Nat)(s:List UInt8)(c:UInt8):=zF Gcut Tryz.f69 F [pS s,.p (.str [c])]
theorem zQp(F s c):letI A:=yv s c;zTc F s c=ze (s.length<=1000000) (some (.tup [.p (.str A.1),.p (.str A.2.1),.p (.bool A.2.2)],[])):=by kernel_rfl
theorem zSx(F s c r):IsP 69 (zTc F s c) [.p (.str s),.p (.str [c])] r:=zG Gcut rfl ⟨zOA.any,trivial⟩
theorem zSG(s:List UInt8)(c:UInt8)(hs:s.length<=1000000):zTc 0 s c=some (.tup [.p (.str (yv s c).1),.p (.str (yv s c).2.1),.p (.bool (yv s c).2.2)],[]):=by
 rw[zQp];exact yZ hs
def zul:List AV->Option (AV×Option Prop)
 | [.p (.str s),.p (.str [c])]=>some (.tup [.p (.str ((yv s c).1)),.p (.str ((yv s c).2.1)),.p (.bool ((yv s c).2.2))],some (s.length<=1000000))
 | _=>none
theorem zJf:zn Tryz.prog 69 zul:=by
 intro zs r ok he hok
 unfold zul at he
 split at he
 .cases he;exact⟨by kernel_rfl,zSx 0 _ _ _ fun hx=>zSG _ _ hok⟩
 .cases he
theorem zeK(c:UInt8):∀ (s:List UInt8),(∃ p q,s=p++c::q/\(∀ x ∈ p,x≠c)/\Lib.indexByte s c=(p.length:Int))\/((∀ x ∈ s,x≠c)/\Lib.indexByte s c=-1)
 | []=>.inr ⟨by simp,rfl⟩
 | b::l=>by
  by_cases h:b=c
  .subst h
   exact .inl ⟨[],l,rfl,by simp,by simp[Lib.indexByte]⟩
  .rcases zeK c l with⟨p,q,e,hp,hi⟩|⟨hn,hi⟩
   .refine .inl ⟨b::p,q,by rw[e];rfl,?_,?_⟩
    .intro x hx
     rcases List.mem_cons.1 hx with rfl|hx
     .exact h
     .exact hp x hx
    .unfold Lib.indexByte
     rw[if_neg (by simpa using h),hi,if_neg (by simp)]
     simp only[List.length_cons];omega
   .refine .inr ⟨?_,?_⟩
    .intro x hx
     rcases List.mem_cons.1 hx with rfl|hx
     .exact h
     .exact hn x hx
    .simp [Lib.indexByte,hi,h]
theorem zpA(s:List UInt8)(c:UInt8):ixS s (c.toNat:Int)=Lib.indexByte s c:=by unfold ixS;rw[u8c]
theorem zs6(c:UInt8)(s:List UInt8):(∃ p q,s=p++c::q/\(∀ x ∈ p,x≠c)/\yv s c=(p,q,true))\/((∀ x ∈ s,x≠c)/\yv s c=(s,[],false)):=by
 rcases zeK c s with⟨p,q,e,hp,hi⟩|⟨hn,hi⟩
 .refine .inl ⟨p,q,e,hp,?_⟩
  rw[yv,zpA,hi,if_pos (by omega)]
  have e1:((p.length:Int)+1).toNat=p.length+1:=by omega
  rw[Int.toNat_natCast,e1,e]
  simp
 .refine .inr ⟨hn,?_⟩
  rw[yv,zpA,hi,if_neg (by decide)]
theorem zjN(s:List UInt8)(c:UInt8):(yv s c).1.length+(yv s c).2.1.length<=s.length:=by
 rcases zs6 c s with⟨p,q,e,_,hc⟩|⟨_,hc⟩
 .rw [hc,e];simp
 .rw [hc];simp
def ziL(s p:List UInt8):Bool:=decide ((s.length:Int)>=(p.length:Int))&&(s.drop (s.length-p.length)==p)
def zaC(s p:List UInt8):List UInt8:=if ziL s p=true then s.take (s.length-p.length) else s
def Ghsl:=mkG [] [] 21 [] [] []
def zS9(F:Nat)(s p:List UInt8):=zF Ghsl Tryz.f155 F [pS s,pS p]
theorem zQn(F s p):letI A:=(s.length:Int)-(p.length:Int);letI B:=decide ((s.length:Int)>=(p.length:Int));zS9 F s p=ze (B=true->zh A) (ze (B=true->0<=A/\A<=(s.length:Int)) (some (.p (.bool (B&&((s.drop A.toNat)==p))),[]))):=letI A:=(decide ((s.length:Int)>=(p.length:Int)))=true;Eq.trans (by kernel_rfl) (nI A (nI A (nI A (nI A (zf (nI A (nI A (zf (nI A (nI A (nI A rfl)))))))))))
theorem zSv(F s p r):IsP 155 (zS9 F s p) [.p (.str s),.p (.str p)] r:=zG Ghsl rfl trivial
theorem zSb(s p:List UInt8)(hs:s.length<=1000000):zS9 0 s p=some (.p (.bool (ziL s p)),[]):=by
 have e:((s.length:Int)-(p.length:Int)).toNat=s.length-p.length:=by omega
 rw[zQn,e]
 exact zd (fun h=>by unfold zh;simp at h;omega) (zd (fun h=>by simp at h;omega) rfl)
def zzY:List AV->Option (AV×Option Prop)
 | [.p (.str s),.p (.str p)]=>some (.p (.bool (ziL s p)),some (s.length<=1000000))
 | _=>none
theorem zRR:zn Tryz.prog 155 zzY:=by
 intro zs r ok he hok
 unfold zzY at he
 split at he
 .cases he;exact⟨by kernel_rfl,zSv 0 _ _ _ fun hx=>zSb _ _ hok⟩
 .cases he
def Gtsl:=mkG [(155,zzY)] [] 16 [] [] []
def zS0(F:Nat)(s p:List UInt8):=zF Gtsl Tryz.f126 F [pS s,pS p]
theorem zQb(F s p):letI A:=(s.length:Int)-(p.length:Int);zS0 F s p=ze (s.length<=1000000) (cond (ziL s p) (ze (zh A) (ze (0<=A/\A<=(s.length:Int)) (some (.p (.str (s.take A.toNat)),[])))) (some (.p (.str s),[]))):=by kernel_rfl
theorem zSm(F s p r):IsP 126 (zS0 F s p) [.p (.str s),.p (.str p)] r:=zG Gtsl rfl ⟨zRR.any,trivial⟩
theorem zRq(s p:List UInt8)(hs:s.length<=1000000):zS0 0 s p=some (.p (.str (zaC s p)),[]):=by
 have e:((s.length:Int)-(p.length:Int)).toNat=s.length-p.length:=by omega
 rw[zQb,zaC,e]
 refine zd hs ?_
 by_cases h:ziL s p=true
 .have h2:=h
  unfold ziL at h2
  rw[Bool.and_eq_true]at h2
  have h3:=of_decide_eq_true h2.1
  refine zi h (zd (by unfold zh;omega) (zd (by omega) ?_))
  rw[if_pos h]
 .refine zg (by simpa using h) ?_
  rw[if_neg h]
def zzS:List AV->Option (AV×Option Prop)
 | [.p (.str s),.p (.str p)]=>some (.p (.str (zaC s p)),some (s.length<=1000000))
 | _=>none
theorem zRM:zn Tryz.prog 126 zzS:=by
 intro zs r ok he hok
 unfold zzS at he
 split at he
 .cases he;exact⟨by kernel_rfl,zSm 0 _ _ _ fun hx=>zRq _ _ hok⟩
 .cases he
def Gts:=mkG [(126,zzS)] [] 8 [] [] []
def Fts(F:Nat)(s p:List UInt8):=zF Gts Tryz.f98 F [pS s,pS p]
theorem zS1(F s p):Fts F s p=ze (s.length<=1000000) (some (.p (.str (zaC s p)),[])):=by kernel_rfl
theorem zTO(F s p r):IsP 98 (Fts F s p) [.p (.str s),.p (.str p)] r:=zG Gts rfl ⟨zRM.any,trivial⟩
theorem zTh(s p:List UInt8)(hs:s.length<=1000000):Fts 0 s p=some (.p (.str (zaC s p)),[]):=by rw[zS1];exact zd hs rfl
def zDd:List AV->Option (AV×Option Prop)
 | [.p (.str s),.p (.str p)]=>some (.p (.str (zaC s p)),some (s.length<=1000000))
 | _=>none
theorem zTz:zn Tryz.prog 98 zDd:=by
 intro zs r ok he hok
 unfold zDd at he
 split at he
 .cases he;exact⟨by kernel_rfl,zTO 0 _ _ _ fun hx=>zTh _ _ hok⟩
 .cases he
end Go.Proofs.YtampckbjinodgaaGreatDoor
namespace Go.Proofs.YtampckbjinodgaaGreatDoor
open Go Go.Am
def zmB(c:UInt8):Bool:=[32,9].contains c
def zbr(s:List UInt8):List UInt8:=(s.reverse.dropWhile zmB).reverse.dropWhile zmB
theorem zRr(s:List UInt8):Lib.trimS s [32,9]=zbr s:=rfl
theorem zfr(p:UInt8->Bool):∀ l:List UInt8,(l.dropWhile p).length<=l.length
 | []=>by simp
 | c::r=>by rw[List.dropWhile_cons];split <;> simp;exact Nat.le_succ_of_le (zfr p r)
theorem zor(s:List UInt8):(zbr s).length<=s.length:=by
 unfold zbr
 have h1:=zfr zmB (s.reverse.dropWhile zmB).reverse
 have h2:=zfr zmB s.reverse
 simp at h1 h2;omega
end Go.Proofs.YtampckbjinodgaaGreatDoor
namespace Go.Proofs.YtampckbjinodgaaGreatDoor
open Go.Shelf
def lays160_ren : Go.Shelf.Ren:=⟨fun |160=>99|232=>128|231=>127|227=>129|234=>131|233=>130|236=>133|235=>132|228=>156|271=>159|151=>158|197=>157|120=>179|152=>178|260=>177|137=>74|119=>192|224=>161|225=>160|217=>108|266=>140|n=>n, fun |9=>9|4=>4|3=>3|5=>5|117=>181|116=>180|0=>0|124=>184|21=>21|105=>199|46=>172|119=>211|139=>239|138=>238|n=>n, fun |3=>1|4=>2|n=>n⟩
theorem lays160 : Go.Proofs.Lays.n160 Tryz.prog lays160_ren:={
 mixed:=by kernel_rfl
 f119:=Tryz.func192.trans (congrArg some (by kernel_rfl))
 f120:=Tryz.func179.trans (congrArg some (by kernel_rfl))
 f137:=Tryz.func74.trans (congrArg some (by kernel_rfl))
 f151:=Tryz.func158.trans (congrArg some (by kernel_rfl))
 f152:=Tryz.func178.trans (congrArg some (by kernel_rfl))
 f160:=Tryz.func99.trans (congrArg some (by kernel_rfl))
 f197:=Tryz.func157.trans (congrArg some (by kernel_rfl))
 f217:=Tryz.func108.trans (congrArg some (by kernel_rfl))
 f224:=Tryz.func161.trans (congrArg some (by kernel_rfl))
 f225:=Tryz.func160.trans (congrArg some (by kernel_rfl))
 f227:=Tryz.func129.trans (congrArg some (by kernel_rfl))
 f228:=Tryz.func156.trans (congrArg some (by kernel_rfl))
 f231:=Tryz.func127.trans (congrArg some (by kernel_rfl))
 f232:=Tryz.func128.trans (congrArg some (by kernel_rfl))
 f233:=Tryz.func130.trans (congrArg some (by kernel_rfl))
 f234:=Tryz.func131.trans (congrArg some (by kernel_rfl))
 f235:=Tryz.func132.trans (congrArg some (by kernel_rfl))
 f236:=Tryz.func133.trans (congrArg some (by kernel_rfl))
 f260:=Tryz.func177.trans (congrArg some (by kernel_rfl))
 f266:=Tryz.func140.trans (congrArg some (by kernel_rfl))
 f271:=Tryz.func159.trans (congrArg some (by kernel_rfl))
 t0:=Tryz.underlying0
 a0:=Tryz.isAgg0
 z0:=Tryz.sizeOf0
 v0:=Tryz.zeroValue0
 t3:=Tryz.underlying3
 a3:=Tryz.isAgg3
 z3:=Tryz.sizeOf3
 v3:=Tryz.zeroValue3
 t4:=Tryz.underlying4
 a4:=Tryz.isAgg4
 z4:=Tryz.sizeOf4
 v4:=Tryz.zeroValue4
 t5:=Tryz.underlying5
 a5:=Tryz.isAgg5
 z5:=Tryz.sizeOf5
 v5:=Tryz.zeroValue5
 t9:=Tryz.underlying9
 a9:=Tryz.isAgg9
 z9:=Tryz.sizeOf9
 v9:=Tryz.zeroValue9
 t21:=Tryz.underlying21
 a21:=Tryz.isAgg21
 z21:=Tryz.sizeOf21
 v21:=Tryz.zeroValue21
 t46:=Tryz.underlying172
 a46:=Tryz.isAgg172
 z46:=Tryz.sizeOf172
 v46:=Tryz.zeroValue172
 t105:=Tryz.underlying199
 a105:=Tryz.isAgg199
 z105:=Tryz.sizeOf199
 v105:=Tryz.zeroValue199
 t116:=Tryz.underlying180
 a116:=Tryz.isAgg180
 z116:=Tryz.sizeOf180
 t117:=Tryz.underlying181
 a117:=Tryz.isAgg181
 z117:=Tryz.sizeOf181
 v117:=Tryz.zeroValue181
 t119:=Tryz.underlying211
 a119:=Tryz.isAgg211
 z119:=Tryz.sizeOf211
 t124:=Tryz.underlying184
 a124:=Tryz.isAgg184
 z124:=Tryz.sizeOf184
 v124:=Tryz.zeroValue184
 t138:=Tryz.underlying238
 a138:=Tryz.isAgg238
 z138:=Tryz.sizeOf238
 v138:=Tryz.zeroValue238
 t139:=Tryz.underlying239
 a139:=Tryz.isAgg239
 z139:=Tryz.sizeOf239
 v139:=Tryz.zeroValue239
 g3:=by kernel_rfl
 g4:=by kernel_rfl }
end Go.Proofs.YtampckbjinodgaaGreatDoor
namespace Go.Proofs.YtampckbjinodgaaGreatDoor
open Go Go.Am Go.Shelf
def zoz:List AV->Option (AV×Option Prop)
 | [.p (.str s),.p (.str [32,9])]=>some (.p (.str (zbr s)),some (s.length<=1000000))
 | _=>none
theorem zIP:zn Tryz.prog 99 zoz:=by
 intro zs r ok he hok
 unfold zoz at he
 split at he
 .rename_i s
  cases he
  refine⟨by kernel_rfl,fun M w vs hM hvs=>?_⟩
  cases hvs with|cons h1 h2=>
  cases h2 with|cons h2 h3=>
  cases h3
  cases h1 with|p _ _ h1=>
  cases h2 with|p _ _ h2=>
  cases h1 with|str _ hs=>
  cases h2 with|str _ hc=>
  have hok:s.length<=1000000:=hok
  have hcon:=Any.strings_Trim_laid lays160 (by kernel_rfl) ⟨s.toArray⟩ ⟨#[32,9]⟩ w (by show s.toArray.size<=_;simp;omega) (by decide) (ascii_of_all (by decide))
  refine Calls.mono hcon fun e w' ⟨he,hB⟩=>?_
  refine⟨_,M,he,MLe.refl M,fun _ _=>rfl,⟨fun b q v hv=>?_,hM.good⟩,.p _ _ (.str (zbr s) ?_),hB⟩
  .have hc:=hM b q v hv
   have hb:b<w.heap.size:=World.block_lt_of_cell? w ⟨b,q,none⟩ hc
   rw[World.cell?_of_block (w:=w) (hB.block b hb)];exact hc
  .have:=zor s
   unfold maxLen;omega
 .cases he
end Go.Proofs.YtampckbjinodgaaGreatDoor
/-! A range over a function: the statement, a round, a call of yield. -/
namespace Go.Am
open Go Go.RowKit
variable {P:Program}{C C':Ctx}{s s':S}{a a':Act}{w w' w2:World}{γ γ':Nat->Option G}{M M':Mem}
theorem StG.reroot(h:StG C γ M s a w)(e0:C'.w0=w2)(eM:C'.M0=M)(hown:∀ id g b,s.ob id≠none->γ id=some g->g.blk=some b->C'.own b/\w2.heap[b]?=w.heap[b]?)
 (hsz:w.heap.size<=w2.heap.size) (hmem:MOk M w2) (ht:a'.tmps=a.tmps) (hd:a'.defers=C'.dl) (hnt:C'.nt=C.nt) (hg:GLe C'.g0 γ) (htab:TabC C'):StG C' γ M s a' w2:=by
 refine⟨fun t=>by rw[ht];exact h.sl t,fun id o ho=>(h.ob id o ho).keep (GLe.refl γ) (MLe.refl M) fun g b h1 h2=>⟨(hown id g b (by rw[ho];simp) h1 h2).2,rfl⟩,h.us,h.sep,
  fun id g b h1 h2 h3=>⟨.inr (hown id g b h1 h2 h3).1,Nat.lt_of_lt_of_le (h.lo id g b h1 h2 h3).2 hsz⟩,hmem,by rw[eM];exact MLe.refl M,fun _ _ _=>by rw[eM],
  ⟨by rw[e0],by rw[e0],by rw[e0],by rw[e0];exact Nat.le_refl _,fun _ _ _=>by rw[e0],htab⟩,hd,by rw[ht,hnt];exact h.nt,hg⟩
theorem MOk.none_of{b q:Nat}(h:MOk M w)(hb:w.cell? ⟨b,q,none⟩=none):M b q=none:=by
 cases hm:M b q with
 | none=>rfl
 | some v=>have:=h b q v hm;rw[hb]at this;cases this
theorem MOk.put{l:Nat}{o:Obj}(h:MOk M w)(hn:∀ q,M l q=none):MOk M (w.putObj l o):=by
 refine⟨?_,h.good⟩
 intro b q v hv
 have hb:b≠l:=by rintro rfl;rw[hn]at hv;cases hv
 have h1:=h b q v hv
 unfold World.cell? at *
 rw[World.putObj_heap_other hb];exact h1
theorem MOk.dfr{b q:Nat}{r:Option (List Deferred)}(h:MOk M w)(hb:w.heap[b]?=some (.deferred r)):M b q=none:=by
 refine h.none_of ?_
 unfold World.cell?
 rw[hb]
abbrev ziH(D:Nat):Deferred:={ target:=.collected D,args:=#[] }
theorem zi4{g:Operand}{ps:Array Tmp}{assign body:Code}{Q:Exit->Act->World->Prop}{gf:FuncId}{lb:Array Value}(hg:a.eval g=.func (.func gf) #[] lb)(eg:zdE P gf=true)
 (h:∀ (fn:FuncId) (mkR:LoopState->Option Code->Loop),mkR=(fun st pe=>{ state:=st,pending:=pe,fn,tmps:=a.tmps,params:=ps,assign,body,defers:=w.heap.size })->
  Calls P gf (#[.func (.yield (w.heap.size+1)) #[] #[]]++lb) ((w.alloc (.deferred (some []))).alloc (.loop (mkR .ready none))) fun e W2=>(∃ v,e=.returned v)/\
   ((W2.heap[w.heap.size+1]?=some (.loop (mkR .ready none))/\Q .normal { a with defers:=ziH w.heap.size::a.defers } (W2.putObj (w.heap.size+1) (.loop (mkR .exhausted none))))\/
    (∃ c,W2.heap[w.heap.size+1]?=some (.loop (mkR .done (some c)))/\c.wpIn (FW none) 0 P Q { a with defers:=ziH w.heap.size::a.defers } (W2.putObj (w.heap.size+1) (.loop (mkR .exhausted (some c))))))):
 (Code.rangeFunc g ps assign body).wpIn (FW none) 0 P Q a w:=by
 refine wpIn_rangeFunc fun fn _=>?_
 obtain⟨mkR,hR⟩:∃ mkR:LoopState->Option Code->Loop,mkR=fun st pe=>{ state:=st,pending:=pe,fn,tmps:=a.tmps,params:=ps,assign,body,defers:=w.heap.size }:=⟨_,rfl⟩
 obtain⟨W1,hW1⟩:∃ W1,(w.alloc (.deferred (some []))).alloc (.loop (mkR .ready none))=W1:=⟨_,rfl⟩
 have hc:=h fn mkR hR
 rw[hW1]at hc
 refine⟨w.heap.size+1,[ziH w.heap.size],W1,{ target:=.fn (.func gf) lb,args:=#[.func (.yield (w.heap.size+1)) #[] #[]] },W1,gf,
  #[.func (.yield (w.heap.size+1)) #[] #[]]++lb,W1,?_,?_,fun _ _=>trivial,?_,(fun h=>nomatch h),?_⟩
 .rw [<-hW1,hR];exact run_enterLoop_outer _ _ _ _ _
 .simp only[resolve,hg]
  simp[go_sem]
 .simp [invoke,go_sem,zfe eg]
 .refine zft.2 (hc.mono ?_)
  rintro e W2 ⟨⟨v,rfl⟩,⟨hl,hq⟩|⟨c,hl,hq⟩⟩
  .refine ⟨none,_,?_,hq⟩
   have:=run_endLoop (P:=P) hl (by rw[hR];simp)
   rw[hR]at this ⊢;exact this
  .refine ⟨some c,_,?_,hq⟩
   have:=run_endLoop (P:=P) hl (by rw[hR];simp)
   rw[hR]at this ⊢;exact this
def zNO(l:Nat)(r:Loop)(R:Option Code->World->Prop):Exit->Act->World->Prop
 | .normal,_,W=>W.heap[l]?=some (.loop { r with state:=.busy })/\R none W
 | .ret,_,W=>W.heap[l]?=some (.loop { r with state:=.busy })/\R (some .ret) W
 | .exit id,_,W=>W.heap[l]?=some (.loop { r with state:=.busy })/\R (some (.exit id)) W
 | _,_,_=>False
theorem zIp{l:Nat}{r:Loop}{tm:Array Value}{W:World}{R:Option Code->World->Prop}(hr:r.state=.ready)
 (h:r.assign.wpIn (FW (some l)) 0 P (Exit.then (fun a1 W1=>W1.heap[l]?=some (.loop r)/\r.body.wpIn (FW (some l)) 0 P (zNO l r R) a1 (W1.putObj l (.loop { r with state:=.busy }))) (fun _ _ _=>False)) { tmps:=tm,defers:=[] } W):
 RoundIn (FW none) 0 P l r.fn tm r.assign r.body W fun e W'=>∃ (jump:Option Code) (W3:World),e=.returned (.bool jump.isNone)/\
  W'=W3.putObj l (.loop { r with state:=if jump.isNone then .ready else .done,pending:=jump })/\R jump W3:=by
 refine roundIn_of_wpIn (F:=FW none) trivial ?_
 refine wpIn_mono (F:=FW (some l)) h fun e a1 W1 he=>?_
 cases e with
 | normal=>
  obtain⟨hl,hb⟩:=he
  refine⟨_,run_beginRound hl hr,wpIn_mono (F:=FW (some l)) hb fun e2 a2 W2 h2=>?_⟩
  cases e2 with
  | normal=>exact⟨_,_,run_endRound none h2.1,none,W2,rfl,rfl,h2.2⟩
  | ret=>exact⟨_,_,run_endRound (some .ret) h2.1,some .ret,W2,rfl,rfl,h2.2⟩
  | exit id=>exact⟨_,_,run_endRound (some (.exit id)) h2.1,some (.exit id),W2,rfl,rfl,h2.2⟩
  | goto t=>exact h2.elim
  | panic ch=>exact h2.elim
  | outgrown=>exact h2.elim
 | exit id=>exact he
 | goto l=>exact he
 | ret=>exact he
 | panic ch=>exact he
 | outgrown=>exact he
theorem zzI{dst:Option Tmp}{fop:Operand}{args:Array Operand}{ts:Array TypeId}{type:TypeId}{pos:String}{after:Array Edge}{guard:Option (Nat×Bool)}{l:Nat}{r:Loop}{next:Act->World->Prop}{Q:Exit->Act->World->Prop}
 (hf:a.eval fop=.func (.yield l) #[] #[]) (hl:w.heap[l]?=some (.loop r)) (hn:args.size=r.params.size)
 (h:RoundIn (FW none) 0 P l r.fn ((r.params.zip (args.map a.eval)).foldl (fun tmps (t,a)=>tmps.setIfInBounds t a) r.tmps) r.assign r.body w fun e W'=>∃ v,e=.returned v/\next (a.put dst v) W'):
 (⟨dst,.call ⟨.value fop,args,ts⟩,type,pos,after,guard⟩:Oper).wpIn (FW none) 0 P a w next Q:=by
 have hrun:(execOp a.eval ⟨dst,.call ⟨.value fop,args,ts⟩,type,pos,after,guard⟩).run P w=.ok (.round l r.fn ((r.params.zip (args.map a.eval)).foldl (fun tmps (t,a)=>tmps.setIfInBounds t a) r.tmps) r.assign r.body) w:=by
  simp only[execOp,resolve,hf,Deferred.ofValue,Sem.run_bind,Sem.run_pure,Result.andThen_ok,invoke]
  have:=run_yield (P:=P) (args:=args.map a.eval) hl (by simpa using hn)
  simpa using this
 refine znH hrun (fun _ e=>by cases e) ⟨fun h=>(by cases h),h.mono fun e W' ⟨v,he,hv⟩=>?_⟩
 subst he
 exact hv
end Go.Am
/-! What lies in memory, handed from one activation to another. -/
namespace Go.Am
open Go Go.RowKit
variable {P:Program}{C C':Ctx}{s s':S}{a a':Act}{w w' w1 w2:World}{γ γ' γ1 γ2:Nat->Option G}{M M' M1 M2:Mem}{o o' o1 o2:List (Nat×AObj)}
structure zbb(γ:Nat->Option G)(M:Mem)(w:World)(o:List (Nat×AObj)):Prop where
 ob:∀ id x,zm id o=some x->OM γ M w id x
 us:∀ id,zm id o=none->γ id=none
 sep:∀ id id' g g' b,zm id o≠none->zm id' o≠none->γ id=some g->γ id'=some g'->g.blk=some b->g'.blk=some b->id=id'
 lt:∀ id g b,zm id o≠none->γ id=some g->g.blk=some b->b<w.heap.size
 mem:HOk γ o M w
structure Chg(γ:Nat->Option G)(o:List (Nat×AObj))(M:Mem)(w:World)(γ':Nat->Option G)(o':List (Nat×AObj))(M':Mem)(w':World):Prop where
 size:w.heap.size<=w'.heap.size
 os:w'.os=w.os
 tape:w'.tape=w.tape
 output:w'.output=w.output
 le:MLe M M'
 old:∀ b,b<w.heap.size->¬ Handed γ o b->w'.heap[b]?=w.heap[b]?/\M' b=M b
 new:∀ b,Handed γ' o' b->w.heap.size<=b\/Handed γ o b
theorem HOk.chg(h:HOk γ o M w)(hm:MOk M' w')(hc:Chg γ o M w γ' o' M' w'):HOk γ' o' M' w':=by
 refine⟨⟨hm,h.tabs.keep fun b hb ht=>(hc.old b hb fun hh=>h.hand b hh ht).1⟩,fun b hb ht=>?_⟩
 rcases hc.new b hb with h1|h1
 .have:=h.tabs.lt ht;omega
 .exact h.hand b h1 ht
theorem Chg.refl:Chg γ o M w γ o M w:=⟨Nat.le_refl _,rfl,rfl,rfl,MLe.refl M,fun _ _ _=>⟨rfl,rfl⟩,fun _ h=>.inr h⟩
theorem Chg.trans(h:Chg γ o M w γ1 o1 M1 w1)(k:Chg γ1 o1 M1 w1 γ2 o2 M2 w2):Chg γ o M w γ2 o2 M2 w2:=by
 have hn:∀ b,b<w.heap.size->¬ Handed γ o b->¬ Handed γ1 o1 b:=fun b hb hh h2=>(h.new b h2).elim (fun h3=>by omega) hh
 refine⟨Nat.le_trans h.size k.size,k.os.trans h.os,k.tape.trans h.tape,k.output.trans h.output,h.le.trans k.le,fun b hb hh=>?_,fun b hb=>?_⟩
 .have h1:=h.old b hb hh
  have h2:=k.old b (Nat.lt_of_lt_of_le hb h.size) (hn b hb hh)
  exact⟨h2.1.trans h1.1,h2.2.trans h1.2⟩
 .rcases k.new b hb with h1|h1
  .exact .inl (Nat.le_trans h.size h1)
  .exact h.new b h1
def zcS(w:World)(M:Mem)(γ:Nat->Option G)(o:List (Nat×AObj))(kept:List Nat)(nt:Nat)(rd:Option Nat)(dl:List Deferred):Ctx:=
 { w0:=w,M0:=M,own:=Handed γ o,nt:=nt,g0:=fun i=>match zaa i kept with|true=>γ i|false=>none,rd:=rd,dl:=dl }
theorem zay{kept:List Nat}{nt:Nat}{rd:Option Nat}{dl:List Deferred}:zbA (zcS w M γ o kept nt rd dl) nt kept:=by
 refine⟨rfl,fun i g hg=>?_⟩
 simp only[zcS]at hg
 split at hg
 .rename_i he;exact za0.1 he
 .cases hg
theorem zbb.lend(h:zbb γ M w o){l:List (Nat×AV)}{kept:List Nat}{nt:Nat}{rd:Option Nat}{dl:List Deferred}(hsl:∀ t,zp γ M (look t .any l) (a.tmps.getD t undef))(hd:a.defers=dl)(hn:a.tmps.size=nt):
 StG (zcS w M γ o kept nt rd dl) γ M (mkS l o) a w:=by
 refine⟨hsl,h.ob,fun id hu=>h.us id ?_,h.sep,fun id g b h1 h2 h3=>⟨.inr ⟨id,g,h1,h2,h3⟩,h.lt id g b h1 h2 h3⟩,h.mem.toMOk,MLe.refl M,fun _ _ _=>rfl,⟨rfl,rfl,rfl,Nat.le_refl _,fun _ _ _=>rfl,h.mem.tabs,h.mem.hand⟩,hd,hn,fun i g hg=>?_⟩
 .have hu:(zm id o).isSome=false:=hu
  cases hl:zm id o with
  | none=>rfl
  | some _=>rw[hl]at hu;cases hu
 .simp only[zcS]at hg
  split at hg
  .exact hg
  .cases hg
theorem zbb.back{l:List (Nat×AV)}{kept:List Nat}{nt:Nat}{rd:Option Nat}{dl:List Deferred}(h:StG (zcS w M γ o kept nt rd dl) γ' M' (mkS l o') a w'):
 zbb γ' M' w' o'/\Chg γ o M w γ' o' M' w'/\(∀ i ∈ kept,∀ g,γ i=some g->γ' i=some g)/\(∀ t,zp γ' M' (look t .any l) (a.tmps.getD t undef))/\a.defers=dl/\a.tmps.size=nt:=by
 refine⟨⟨h.ob,fun id hu=>h.us id ?_,h.sep,fun id g b h1 h2 h3=>(h.lo id g b h1 h2 h3).2,⟨h.wok,fun b ⟨id,g,h1,h2,h3⟩=>h.notab h1 h2 h3⟩⟩,⟨h.fr.size,h.fr.os,h.fr.tape,h.fr.output,h.le,fun b hb hh=>⟨h.fr.block b hb hh,h.new b hb hh⟩,fun b ⟨id,g,h1,h2,h3⟩=>(h.lo id g b h1 h2 h3).1⟩,fun i hi g hg=>h.gl i g ?_,h.sl,h.df,h.nt⟩
 .show (zm id o').isSome=false
  rw[hu];rfl
 .simp only[zcS]
  rw[za0.2 hi];exact hg
theorem zjy{w:World}{x:Obj}{b:Nat}(hb:b<w.heap.size):(w.alloc x).heap[b]?=w.heap[b]?:=by
 show(w.heap.push x)[b]?=_
 rw[Array.getElem?_push_lt hb,Array.getElem?_eq_getElem hb]
theorem zbb.addraw(h:zbb γ M w o){id:Nat}(hid:zm id o=none)(x:Obj):
 zbb (upd γ id (some (.cell w.heap.size))) M (w.alloc x) ((id,.raw x)::o)/\Chg γ o M w (upd γ id (some (.cell w.heap.size))) ((id,.raw x)::o) M (w.alloc x):=by
 have hγ:GLe γ (upd γ id (some (.cell w.heap.size))):=by
  intro i g' hi
  by_cases e:i=id
  .subst e;rw[h.us i hid]at hi;cases hi
  .rw [zC _ _ e];exact hi
 have hl:∀ {i},i≠id->zm i ((id,.raw x)::o)=zm i o:=by
  intro i hi
  show(match Nat.beq i id with|true=>some (AObj.raw x)|false=>zm i o)=_
  cases hb:Nat.beq i id with
  | true=>exact absurd (Nat.eq_of_beq_eq_true hb) hi
  | false=>rfl
 have hsame:zm id ((id,AObj.raw x)::o)=some (.raw x):=by
  show(match Nat.beq id id with|true=>some (AObj.raw x)|false=>zm id o)=_
  rw[Nat.beq_refl]
 have hg:∀ {i g b},i≠id->zm i o≠none->γ i=some g->g.blk=some b->b<w.heap.size:=fun _ h1 h2 h3=>h.lt _ _ _ h1 h2 h3
 have hC:Chg γ o M w (upd γ id (some (.cell w.heap.size))) ((id,.raw x)::o) M (w.alloc x):=by
  refine⟨by simp,rfl,rfl,rfl,MLe.refl M,fun b hb _=>⟨zjy hb,rfl⟩,fun b ⟨i,g,h1,h2,h3⟩=>?_⟩
  by_cases ei:i=id
  .subst ei
   rw[zw]at h2;cases h2;cases h3;exact .inl (Nat.le_refl _)
  .rw [zC _ _ ei]at h2
   exact .inr ⟨i,g,by rw[hl ei]at h1;exact h1,h2,h3⟩
 refine⟨⟨fun i y hi=>?_,fun i hi=>?_,fun i j g g' b hi hj h1 h2 h3 h4=>?_,fun i g b hi h1 h2=>?_,h.mem.chg (h.mem.alloc _) hC⟩,hC⟩
 .by_cases e:i=id
  .subst e
   rw[hsame]at hi;cases hi
   exact⟨w.heap.size,zw _ _ _,heap_alloc_new w _,h.mem.fresh (Nat.le_refl _)⟩
  .rw [hl e]at hi
   exact(h.ob i y hi).keep hγ (MLe.refl M) fun g b h1 h2=>⟨zjy (h.lt i g b (by rw[hi];simp) h1 h2),rfl⟩
 .by_cases e:i=id
  .subst e;rw[hsame]at hi;cases hi
  .rw [hl e]at hi;rw[zC _ _ e];exact h.us i hi
 .by_cases ei:i=id
  .subst ei
   rw[zw]at h1;cases h1;cases h3
   by_cases ej:j=i
   .exact ej.symm
   .rw [zC _ _ ej]at h2
    have:=h.lt j g' _ (by rw[hl ej]at hj;exact hj) h2 h4
    omega
  .rw [zC _ _ ei]at h1
   by_cases ej:j=id
   .subst ej
    rw[zw]at h2;cases h2;cases h4
    have:=h.lt i g _ (by rw[hl ei]at hi;exact hi) h1 h3
    omega
   .rw [zC _ _ ej]at h2
    exact h.sep i j g g' b (by rw[hl ei]at hi;exact hi) (by rw[hl ej]at hj;exact hj) h1 h2 h3 h4
 .by_cases ei:i=id
  .subst ei
   rw[zw]at h1;cases h1;cases h2;simp
  .rw [zC _ _ ei]at h1
   have:=h.lt i g b (by rw[hl ei]at hi;exact hi) h1 h2
   simp;omega
theorem zbb.setraw(h:zbb γ M w o){id b:Nat}{x y:Obj}(hid:zm id o=some (.raw x))(hb:γ id=some (.cell b))(hy:zm id o'=some (.raw y))(hne:∀ i,i≠id->zm i o'=zm i o):
 zbb γ M (w.putObj b y) o'/\Chg γ o M w γ o' M (w.putObj b y):=by
 obtain⟨b',hg',hx,hn⟩:=h.ob id _ hid
 rw[hb]at hg';cases hg'
 have hlt:b<w.heap.size:=h.lt id _ b (by rw[hid];simp) hb rfl
 have hnn:∀ i,zm i o'≠none->zm i o≠none:=by
  intro i hi
  by_cases e:i=id
  .subst e;rw[hid];simp
  .rw [<-hne i e];exact hi
 have hC:Chg γ o M w γ o' M (w.putObj b y):=by
  refine⟨by simp,rfl,rfl,rfl,MLe.refl M,fun c hc hh=>⟨World.putObj_heap_other ?_,rfl⟩,fun c ⟨i,g,h1,h2,h3⟩=>.inr ⟨i,g,hnn i h1,h2,h3⟩⟩
  rintro rfl
  exact hh ⟨id,_,by rw[hid];simp,hb,rfl⟩
 refine⟨⟨fun i z hi=>?_,fun i hi=>?_,fun i j g g' c hi hj h1 h2 h3 h4=>h.sep i j g g' c (hnn i hi) (hnn j hj) h1 h2 h3 h4,fun i g c hi h1 h2=>?_,h.mem.chg (h.mem.put hn) hC⟩,hC⟩
 .by_cases e:i=id
  .subst e
   rw[hy]at hi;cases hi
   exact⟨b,hb,World.putObj_heap_same hlt,hn⟩
  .rw [hne i e]at hi
   refine(h.ob i z hi).keep (GLe.refl γ) (MLe.refl M) fun g c h1 h2=>⟨World.putObj_heap_other ?_,rfl⟩
   rintro rfl
   exact e (h.sep i id g _ c (by rw[hi];simp) (by rw[hid];simp) h1 hb h2 rfl)
 .by_cases e:i=id
  .subst e;rw[hy]at hi;cases hi
  .rw [hne i e]at hi;exact h.us i hi
 .have:=h.lt i g c (hnn i hi) h1 h2
  rw[World.putObj_size];exact this
def zxW(fx:List Nat)(c:Cut)(s:S):Option (List (Nat×AV)×List (Nat×AObj)):=
 match zpb s [] (zh0 c.own)with
 | some rn=>match zKN fx rn with
  | true=>match zdB s rn (zuQ rn) (zh0 c.own) c.slots with
   | some l=>match zp5 s rn (zuQ rn) (zh0 c.own) c.own rn (zh0 c.own)with
    | some o=>some (l,o)
    | none=>none
   | none=>none
  | false=>none
 | none=>none
theorem zBc{fx:List Nat}{c:Cut}{s:S}{l:List (Nat×AV)}{o:List (Nat×AObj)}(h:zxW fx c s=some (l,o)):yv fx c s=some (mkS l o):=by
 unfold zxW at h
 unfold yv
 split at h
 .rename_i rn hrn
  rw[hrn];dsimp only
  split at h
  .rename_i hok
   rw[hok];dsimp only
   split at h
   .rename_i l' hl
    rw[hl];dsimp only
    split at h
    .rename_i o' ho
     rw[ho];cases h;rfl
    .cases h
   .cases h
  .cases h
 .cases h
theorem zh7{s:S}{rn fw:Rn}{own:List Own}:∀ {ts:List Nat} {l:List (Nat×AV)},zdB s rn fw own ts=some l->l.map (·.1)=ts
 | [],l,h=>by cases h;rfl
 | t::r,l,h=>by
  simp only[zdB]at h
  split at h
  .split at h
   .rename_i l' hl
    cases h
    simp[zh7 hl]
   .cases h
  .cases h
theorem zBb{fx:List Nat}{c:Cut}{s:S}{l:List (Nat×AV)}{o:List (Nat×AObj)}(h:zxW fx c s=some (l,o)):l.map (·.1)=c.slots:=by
 unfold zxW at h
 split at h
 .split at h
  .split at h
   .rename_i l' hl
    split at h
    .cases h;exact zh7 hl
    .cases h
   .cases h
  .cases h
 .cases h
def zdk:Exit->AV
 | .normal=>.p (.int .i64 (-1))
 | .ret=>.p (.int .i64 (-2))
 | .exit i=>.p (.int .i64 (i:Int))
 | _=>.any
def zhT(fx:List Nat)(c:Cut):K:=fun e s=>
 match zxW fx c s with
 | some (l,o)=>some (.tup (zdk e::l.map (·.2)),o)
 | none=>none
theorem zcT{e:Exit}(h:zdk e=.p (.int .i64 (-1))):e=.normal:=by
 cases e with
 | normal=>rfl
 | exit i=>simp[zdk]at h
 | _=>simp[zdk]at h
theorem zot{e:Exit}{i:Nat}(h:zdk e=.p (.int .i64 (i:Int))):e=.exit i:=by
 cases e with
 | normal=>simp[zdk]at h
 | ret=>simp[zdk]at h
 | exit j => simp [zdk] at h; have : j = i := by omega
             rw[this]
 | _=>simp[zdk]at h
theorem zwJ{α β:Type}:∀ {l:List (α×β)},List.zip (l.map (·.1)) (l.map (·.2))=l
 | []=>rfl
 | p::r=>by rw[List.map_cons,List.map_cons,List.zip_cons_cons,zwJ]
theorem zcB{nt:Nat}{fx:List Nat}(hC:zbA C nt fx){c:Cut}{e:Exit}{s:S}{t:AV}{xs:List AV}{o:List (Nat×AObj)}(h:zhT fx c e s=some (.tup (t::xs),o)):zdk e=t/\Sub C s (mkS (List.zip c.slots xs) o):=by
 unfold zhT at h
 split at h
 .rename_i l o' hl
  cases h
  rw[<-zBb hl,zwJ]
  exact⟨rfl,zpY hC (zBc hl)⟩
 .cases h
def za5:List Nat->Code->S->K->Option Ans:=fun _ _ _ _=>none
theorem zTv{G:Cfg}(hG:zb0 G P C){c:Code}{s:S}{k:K}{r:Ans}(h:zan G za5 [] c s k=some r):T P C c s (fun e s'=>k e s'=some r):=
 zdr (again:=za5) hG (fun _ _ _ _ _ h _=>by cases h) c [] s k _ h (fun _ _ h=>h)
def zbf(G:Cfg)(c:Code)(k:K):K:=fun e s=>
 match e with
 | .normal=>zan G za5 [] c s k
 | e=>k e s
theorem yR{G:Cfg}(hG:zb0 G P C){c:Code}{s:S}{k:K}{r:Ans}{R:Exit->Act->World->Prop}(h:zan G za5 [] c s k=some r)(hs:St C s a w)(hk:∀ e s' a' w',k e s'=some r->St C s' a' w'->R e a' w'):c.wpIn (FW C.rd) 0 P R a w:=
 wpIn_mono (zTv hG h a w hs) fun e a' w' ⟨s',h1,h2⟩=>hk e s' a' w' h1 h2
theorem FnP.weak{f:FuncId}{args:List AV}{r r':AV}(h:FnP P f args r)(k:∀ M v,zp γ0 M r v->zp γ0 M r' v):FnP P f args r':=fun M w vs hM hvs=>
 (h M w vs hM hvs).mono fun e w' ⟨v,M',he,h1,h2,h3,h4,h5⟩=>⟨v,M',he,h1,h2,h3,k M' v h4,h5⟩
theorem zp.nil_list{γ:Nat->Option G}{M:Mem}{v:Value}{k:Nat}{R:Rows}(h0:R.n=0)(h:zp γ M (.p .nil) v):zp γ M (.p (.list k R)) v:=by
 cases h with|p _ _ h=>cases h;exact .p _ _ (.listNil k R h0)
theorem zp.tup_head{γ:Nat->Option G}{M:Mem}{v:Value}{x y:AV}{r:List AV}(k:∀ v,zp γ M x v->zp γ M y v)(h:zp γ M (.tup (x::r)) v):zp γ M (.tup (y::r)) v:=by
 obtain⟨vs,rfl,hs,hr⟩:=h.tup_inv
 refine .tup _ _ (by simpa using hs) fun i hi=>?_
 cases i with
 | zero=>exact k _ (hr 0 (by simp))
 | succ i=>exact hr (i+1) (by simpa using hi)
end Go.Am
