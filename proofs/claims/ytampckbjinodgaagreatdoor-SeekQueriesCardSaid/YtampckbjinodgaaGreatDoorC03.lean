/-
  Lifted functions, and facts about them.
-/
import Derived.Test.YtampckbjinodgaaGreatDoorRows
import Derived.Test.YtampckbjinodgaaGreatDoorC01
import Derived.Test.YtampckbjinodgaaGreatDoorAmC
import Derived.Test.YtampckbjinodgaaGreatDoorC02
import Derived.WalkKit
set_option linter.unusedVariables false
noncomputable section
namespace Go.Proofs.YtampckbjinodgaaGreatDoor
open Go Go.Am
abbrev zaO(s:List UInt8)(i:Int):Prop:=0<=i/\i<=s.length/\s.length<=100000
def inW(c:UInt8):Bool:=decide (33<=c.toNat)&&decide (c.toNat<=126)&&decide (c.toNat≠63)
def zf0(c:UInt8):Bool:=c==32||c==9
def zcu(s:List UInt8)(i:Nat):Nat:=i+((s.drop i).takeWhile inW).length
def blN(s:List UInt8)(i:Nat):Nat:=i+((s.drop i).takeWhile zf0).length
def zdq(s:List UInt8)(i:Int):Int:=(zcu s i.toNat:Int)
def zvc(s:List UInt8)(i:Int):Int:=(blN s i.toNat:Int)
theorem zH5{p:UInt8->Bool}(l:List UInt8):(l.takeWhile p).length<=l.length:=by
 induction l with
 | nil=>simp
 | cons c r ih=>rw[List.takeWhile_cons];split <;> simp <;> omega
theorem zg3{s:List UInt8}{i:Nat}(h:i<=s.length):i<=zcu s i/\zcu s i<=s.length:=by
 have:=zH5 (p:=inW) (s.drop i)
 simp at this
 unfold zcu;omega
theorem zK8{s:List UInt8}{i:Nat}(h:i<=s.length):i<=blN s i/\blN s i<=s.length:=by
 have:=zH5 (p:=zf0) (s.drop i)
 simp at this
 unfold blN;omega
def zD9:=mkG [] [] 30 [] [([0,0,1],⟨[0,1],[]⟩),([1,0,0,0,0,1],⟨[0,1,26],[]⟩)] []
def zn5(F f1:Nat)(s:List UInt8)(vi1:Int):=zH zD9 Tryz.f113 F [] [1,0,0] f1 [(0,pS s),(1,pI vi1)] []
def zEA(F f1:Nat)(s:List UInt8)(vi1:Int)(vc2:Bool):=zx zD9 Tryz.f113 F [f1] [1,0,0,0,0,1] [(0,pS s),(1,pI vi1),(26,pB vc2)] []
def zLV(F:Nat)(s:List UInt8)(i:Int):=zF zD9 Tryz.f113 F [pS s,pI i]
theorem zqy(F f1 s vi1):letI B:=((s.getD vi1.toNat 0).toNat:Int);letI C:=(s.length:Int);letI A:=(decide (vi1<C))&&(decide (B>=33));letI D:=A&&(decide (B<=126));zn5 F (f1+1) s vi1=ze ((decide (vi1<C))=true->0<=vi1/\vi1<C) (ze (A=true->0<=vi1/\vi1<C) (ze (D=true->0<=vi1/\vi1<C) (zEA F f1 s vi1 (D&&(B != 63))))):=letI A:=(decide (vi1<(s.length:Int)))&&(decide (((s.getD vi1.toNat 0).toNat:Int)>=33));letI B:=(A&&(decide (((s.getD vi1.toNat 0).toNat:Int)<=126)))=true;letI C:=(decide (vi1<(s.length:Int)))=true;letI D:=A=true;Eq.trans (by kernel_rfl) (nI C (nI C (zf (nI C (nI C (nI D (nI D (zf (nI D (nI D (nI B (nI B (zf (nI B (nI B rfl)))))))))))))))
theorem zqx(F f1 s vi1 vc2):zEA F f1 s vi1 vc2=cond vc2 (ze (zh (vi1+1)) (zn5 F f1 s (vi1+1))) (some (.p (.int .i64 vi1),[])):=by kernel_rfl
theorem zLU(F s i):zLV F s i=zn5 F F s i:=by kernel_rfl
theorem zOX(F s i r):IsP 113 (zLV F s i) [.p (.str s),.p (.int .i64 i)] r:=zG zD9 rfl trivial
def zP2:=mkG [] [] 24 [] [([0,0,1],⟨[0,1],[]⟩),([1,0,0,0,0,1],⟨[0,1,20],[]⟩)] []
def zvX(F f1:Nat)(s:List UInt8)(vi1:Int):=zH zP2 Tryz.f81 F [] [1,0,0] f1 [(0,pS s),(1,pI vi1)] []
def zNe(F f1:Nat)(s:List UInt8)(vi1:Int)(vc2:Bool):=zx zP2 Tryz.f81 F [f1] [1,0,0,0,0,1] [(0,pS s),(1,pI vi1),(20,pB vc2)] []
def zSZ(F:Nat)(s:List UInt8)(i:Int):=zF zP2 Tryz.f81 F [pS s,pI i]
theorem ztu(F f1 s vi1):letI A:=((s.getD vi1.toNat 0).toNat:Int);letI C:=(s.length:Int);letI B:=decide (vi1<C);zvX F (f1+1) s vi1=ze (B=true->0<=vi1/\vi1<C) (ze ((B&&(!(A==32)))=true->0<=vi1/\vi1<C) (zNe F f1 s vi1 (B&&((A==32)||(A==9))))):=letI A:=decide (vi1<(s.length:Int));letI B:=((s.getD vi1.toNat 0).toNat:Int)==32;letI C:=A=true;letI D:=(A&&(!B))=true;Eq.trans (by kernel_rfl) (nI C (nI C (zf (nI C (nI C (nI D (nI D (zf (nI D (nI C (zl (show A=true->B=false->(A&&(!B))=true from(fun q0 q1=>(zfx q0 (zen q1)))) (nI C rfl))))))))))))
theorem ztt(F f1 s vi1 vc2):zNe F f1 s vi1 vc2=cond vc2 (ze (zh (vi1+1)) (zvX F f1 s (vi1+1))) (some (.p (.int .i64 vi1),[])):=by kernel_rfl
theorem zQa(F s i):zSZ F s i=zvX F F s i:=by kernel_rfl
theorem zSl(F s i r):IsP 81 (zSZ F s i) [.p (.str s),.p (.int .i64 i)] r:=zG zP2 rfl trivial
def zvt:=mkG [] [] 30 [] [([0,0,1],⟨[0,1],[]⟩),([1,0,0,0,0,1],⟨[0,1,26],[]⟩)] []
def zkG(F f1:Nat)(s:List UInt8)(vi1:Int):=zH zvt Tryz.f174 F [] [1,0,0] f1 [(0,pS s),(1,pI vi1)] []
def zyY(F f1:Nat)(s:List UInt8)(vi1:Int)(vc2:Bool):=zx zvt Tryz.f174 F [f1] [1,0,0,0,0,1] [(0,pS s),(1,pI vi1),(26,pB vc2)] []
def zB1(F:Nat)(s:List UInt8)(i:Int):=zF zvt Tryz.f174 F [pS s,pI i]
theorem zm6(F f1 s vi1):letI B:=((s.getD vi1.toNat 0).toNat:Int);letI C:=(s.length:Int);letI A:=(decide (vi1<C))&&(decide (B>=33));letI D:=A&&(decide (B<=126));zkG F (f1+1) s vi1=ze ((decide (vi1<C))=true->0<=vi1/\vi1<C) (ze (A=true->0<=vi1/\vi1<C) (ze (D=true->0<=vi1/\vi1<C) (zyY F f1 s vi1 (D&&(B != 63))))):=letI A:=(decide (vi1<(s.length:Int)))&&(decide (((s.getD vi1.toNat 0).toNat:Int)>=33));letI B:=(A&&(decide (((s.getD vi1.toNat 0).toNat:Int)<=126)))=true;letI C:=(decide (vi1<(s.length:Int)))=true;letI D:=A=true;Eq.trans (by kernel_rfl) (nI C (nI C (zf (nI C (nI C (nI D (nI D (zf (nI D (nI D (nI B (nI B (zf (nI B (nI B rfl)))))))))))))))
theorem zm5(F f1 s vi1 vc2):zyY F f1 s vi1 vc2=cond vc2 (ze (zh (vi1+1)) (zkG F f1 s (vi1+1))) (some (.p (.int .i64 vi1),[])):=by kernel_rfl
theorem zHb(F s i):zB1 F s i=zkG F F s i:=by kernel_rfl
theorem zJ3(F s i r):IsP 174 (zB1 F s i) [.p (.str s),.p (.int .i64 i)] r:=zG zvt rfl trivial
theorem zDD(i:Int)(n:Nat)(c:UInt8)(h:i<(n:Int)):((((decide (i<(n:Int)))&&(decide ((c.toNat:Int)>=(33:Int))))&&(decide ((c.toNat:Int)<=(126:Int))))&&((c.toNat:Int) != (63:Int)))=inW c:=by
 rw[show decide (i<(n:Int))=true by simpa using h,Bool.true_and]
 unfold inW
 congr 1
 .congr 1
  .exact decide_eq_decide.2 (by omega)
  .exact decide_eq_decide.2 (by omega)
 .by_cases e:c.toNat=63
  .rw [e];rfl
  .rw [show decide (c.toNat≠63)=true by simpa using e]
   simp;omega
theorem zCA(F:Nat)(s:List UInt8)(hs:s.length<=1000000):∀ (r:List UInt8) (f i:Nat),s.drop i=r->r.length<f->i<=s.length->
 zn5 F f s (i:Int)=some (.p (.int .i64 ((i+(r.takeWhile inW).length:Nat):Int)),[]):=by
 intro r
 induction r with
 | nil=>
  intro f i hd hf hi
  have:i=s.length:=by have:=congrArg List.length hd;simp at this;omega
  cases f with
  | zero=>omega
  | succ f=>
   have hd:decide ((i:Int)<(s.length:Int))=false:=by simp;omega
   rw[zqy,hd]
   simp only[Bool.false_and]
   refine zd (fun h=>by cases h) (zd (fun h=>by cases h) (zd (fun h=>by cases h) ?_))
   rw[zqx]
   exact zg rfl rfl
 | cons c r ih=>
  intro f i hd hf hi
  obtain⟨h1,h2,h3⟩:=yg hd
  cases f with
  | zero=>omega
  | succ f=>
   rw[zqy]
   refine zd (fun _=>by omega) (zd (fun _=>by omega) (zd (fun _=>by omega) ?_))
   rw[Int.toNat_natCast,h1,zDD _ _ _ (by omega),zqx,List.takeWhile_cons]
   by_cases hw:inW c=true
   .refine zi hw ?_
    refine zy ?_
    have e:(i:Int)+1=((i+1:Nat):Int):=by omega
    rw[e,ih f (i+1) h2 (by simp at hf;omega) (by omega),if_pos hw]
    congr 5
    simp only[List.length_cons];omega
   .refine zg (by simpa using hw) ?_
    rw[if_neg hw];rfl
theorem zNk(s:List UInt8)(i:Int)(h:zaO s i):zLV (s.length+1) s i=some (.p (.int .i64 (zdq s i)),[]):=by
 obtain⟨h0,h1,h2⟩:=h
 obtain⟨i,rfl⟩:=Int.eq_ofNat_of_zero_le h0
 rw[zLU]
 exact zCA _ s (by omega) _ (s.length+1) i rfl (by simp;omega) (by omega)
def ztV:List AV->Option (AV×Option Prop)
 | [.p (.str s),.p (.int .i64 i)]=>some (.p (.int .i64 (zdq s i)),some (zaO s i))
 | _=>none
theorem zN8:zn Tryz.prog 113 ztV:=by
 intro zs r ok he hok
 unfold ztV at he
 split at he
 .cases he;exact⟨by kernel_rfl,zOX (_) _ _ _ fun hx=>zNk _ _ hok⟩
 .cases he
theorem zyX(F:Nat)(s:List UInt8)(hs:s.length<=1000000):∀ (r:List UInt8) (f i:Nat),s.drop i=r->r.length<f->i<=s.length->
 zkG F f s (i:Int)=some (.p (.int .i64 ((i+(r.takeWhile inW).length:Nat):Int)),[]):=by
 intro r
 induction r with
 | nil=>
  intro f i hd hf hi
  have:i=s.length:=by have:=congrArg List.length hd;simp at this;omega
  cases f with
  | zero=>omega
  | succ f=>
   have hd:decide ((i:Int)<(s.length:Int))=false:=by simp;omega
   rw[zm6,hd]
   simp only[Bool.false_and]
   refine zd (fun h=>by cases h) (zd (fun h=>by cases h) (zd (fun h=>by cases h) ?_))
   rw[zm5]
   exact zg rfl rfl
 | cons c r ih=>
  intro f i hd hf hi
  obtain⟨h1,h2,h3⟩:=yg hd
  cases f with
  | zero=>omega
  | succ f=>
   rw[zm6]
   refine zd (fun _=>by omega) (zd (fun _=>by omega) (zd (fun _=>by omega) ?_))
   rw[Int.toNat_natCast,h1,zDD _ _ _ (by omega),zm5,List.takeWhile_cons]
   by_cases hw:inW c=true
   .refine zi hw ?_
    refine zy ?_
    have e:(i:Int)+1=((i+1:Nat):Int):=by omega
    rw[e,ih f (i+1) h2 (by simp at hf;omega) (by omega),if_pos hw]
    congr 5
    simp only[List.length_cons];omega
   .refine zg (by simpa using hw) ?_
    rw[if_neg hw];rfl
theorem zIz(s:List UInt8)(i:Int)(h:zaO s i):zB1 (s.length+1) s i=some (.p (.int .i64 (zdq s i)),[]):=by
 obtain⟨h0,h1,h2⟩:=h
 obtain⟨i,rfl⟩:=Int.eq_ofNat_of_zero_le h0
 rw[zHb]
 exact zyX _ s (by omega) _ (s.length+1) i rfl (by simp;omega) (by omega)
def zoH:List AV->Option (AV×Option Prop)
 | [.p (.str s),.p (.int .i64 i)]=>some (.p (.int .i64 (zdq s i)),some (zaO s i))
 | _=>none
theorem zIW:zn Tryz.prog 174 zoH:=by
 intro zs r ok he hok
 unfold zoH at he
 split at he
 .cases he;exact⟨by kernel_rfl,zJ3 (_) _ _ _ fun hx=>zIz _ _ hok⟩
 .cases he
theorem zxt(c:UInt8):(((c.toNat:Int)==(32:Int))||((c.toNat:Int)==(9:Int)))=zf0 c:=by
 unfold zf0
 have e:∀ d:UInt8,((c.toNat:Int)==(d.toNat:Int))=(c==d):=fun d=>by
  rw[Bool.eq_iff_iff];simp only[beq_iff_eq];exact zcP
 rw[<-e 32,<-e 9];rfl
theorem zHI(F:Nat)(s:List UInt8)(hs:s.length<=1000000):∀ (r:List UInt8) (f i:Nat),s.drop i=r->r.length<f->i<=s.length->
 zvX F f s (i:Int)=some (.p (.int .i64 ((i+(r.takeWhile zf0).length:Nat):Int)),[]):=by
 intro r
 induction r with
 | nil=>
  intro f i hd hf hi
  have:i=s.length:=by have:=congrArg List.length hd;simp at this;omega
  cases f with
  | zero=>omega
  | succ f=>
   have hd:decide ((i:Int)<(s.length:Int))=false:=by simp;omega
   rw[ztu,hd]
   simp only[Bool.false_and]
   refine zd (fun h=>by cases h) (zd (fun h=>by cases h) ?_)
   rw[ztt]
   exact zg rfl rfl
 | cons c r ih=>
  intro f i hd hf hi
  obtain⟨h1,h2,h3⟩:=yg hd
  cases f with
  | zero=>omega
  | succ f=>
   have ht:decide ((i:Int)<(s.length:Int))=true:=by simp;omega
   rw[ztu]
   refine zd (fun _=>by omega) (zd (fun _=>by omega) ?_)
   rw[Int.toNat_natCast,h1,zxt,ht,Bool.true_and,ztt,List.takeWhile_cons]
   by_cases hw:zf0 c=true
   .refine zi hw ?_
    refine zy ?_
    have e:(i:Int)+1=((i+1:Nat):Int):=by omega
    rw[e,ih f (i+1) h2 (by simp at hf;omega) (by omega),if_pos hw]
    congr 5
    simp only[List.length_cons];omega
   .refine zg (by simpa using hw) ?_
    rw[if_neg hw];rfl
theorem zRo(s:List UInt8)(i:Int)(h:zaO s i):zSZ (s.length+1) s i=some (.p (.int .i64 (zvc s i)),[]):=by
 obtain⟨h0,h1,h2⟩:=h
 obtain⟨i,rfl⟩:=Int.eq_ofNat_of_zero_le h0
 rw[zQa]
 exact zHI _ s (by omega) _ (s.length+1) i rfl (by simp;omega) (by omega)
def zzR:List AV->Option (AV×Option Prop)
 | [.p (.str s),.p (.int .i64 i)]=>some (.p (.int .i64 (zvc s i)),some (zaO s i))
 | _=>none
theorem zRL:zn Tryz.prog 81 zzR:=by
 intro zs r ok he hok
 unfold zzR at he
 split at he
 .cases he;exact⟨by kernel_rfl,zSl (_) _ _ _ fun hx=>zRo _ _ hok⟩
 .cases he
def zEd:=mkG [(27,zcW),(75,zgU),(77,zo3)] [(76,ze7),(78,zfd)] 31 [] [([1,0,1,0,1],⟨[1,9,10],[]⟩),([0,1,0,1,0,1,1,1,0,1,0,1],⟨[1,6,19,20],[⟨.slot 6,6,.cells []⟩,⟨.cell 6 1,7001,(.barr 5 false [])⟩]⟩)] [([1,0,0,1,1,0,0,1,0,1,0,1,1,1,0,1,0,1],[5]),([0,1,1,0,1,1,1,0,1,0,1],[0])]
def zkb(F:Nat)(b vs1:List UInt8)(vc2:Bool):=zx zEd Tryz.f117 F [] [1,0,1,0,1] [(1,pS b),(9,pS vs1),(10,pB vc2)] []
def zob(F f1:Nat)(b:List UInt8)(vi3 vi4:Int)(vb5:List UInt8):=zH zEd Tryz.f117 F [] [1,0,1,0,1,1,1,0,1,0,1,0] f1 [(1,pS b),(6,.ref 6 0),(19,pI vi3),(20,pI vi4)] [(6,.bldr 124 (.arr 7001)),(7001,.barr 5 false vb5)]
def zMe(F:Nat)(s b:List UInt8):=zF zEd Tryz.f117 F [pS s,pS b]
theorem zqN(F b vs1 vc2):zkb F b vs1 vc2=cond vc2 (ze (b.length<=1000000) (some (.tup [.p (.str b),.p (.bool (zaS b))],[]))) (cond (vs1==([105,115,111,45,56,56,53,57,45,49]:List UInt8)) (zob F F b (b.length:Int) 0 []) (some (.tup [.p (.str ([]:List UInt8)),.p (.bool false)],[]))):=by kernel_rfl
theorem zqM(F f1 b vi3 vi4 vb5):letI A:=((b.getD vi4.toNat 0).toNat:Int);zob F (f1+1) b vi3 vi4 vb5=cond (decide (vi4<vi3)) (ze (0<=vi4/\vi4<(b.length:Int)) (ze (-1000000000000<=A/\A<=1000000000000) (ze (vb5.length+(zdt A).length<=140737488355328) (ze (zh (vi4+1)) (zob F f1 b vi3 (vi4+1) (vb5++(zdt A))))))) (some (.tup [.p (.str vb5),.p (.bool true)],[])):=by kernel_rfl
theorem zMd(F s b):letI B:=zL s;letI A:=B==([117,116,102,45,56]:List UInt8);zMe F s b=ze (s.length<=140737488355328) (cond A (zkb F b B A) (zkb F b B (B==([117,115,45,97,115,99,105,105]:List UInt8)))):=by kernel_rfl
theorem zO7(F s b r):IsP 117 (zMe F s b) [.p (.str s),.p (.str b)] r:=zG zEd rfl ⟨zfg.any,zsI.any,zAA.any,trivial⟩ (hr:=⟨zjm,zjp,trivial⟩)
abbrev zfU:List UInt8:=[117,116,102,45,56]
abbrev zdF:List UInt8:=[117,115,45,97,115,99,105,105]
abbrev zx1:List UInt8:=[105,115,111,45,56,56,53,57,45,49]
def zct(s b:List UInt8):List UInt8×Bool:=
 if zL s=zfU\/zL s=zdF then(b,zaS b) else if zL s=zx1 then(zac b,true) else([],false)
def zwP(p:List UInt8×Bool):AV:=.tup [.p (.str p.1),.p (.bool p.2)]
theorem zCQ(F:Nat)(s:List UInt8)(hs:s.length<=1000000):∀ (r:List UInt8) (f i:Nat) (acc:List UInt8),s.drop i=r->acc.length<=4*i->r.length<f->i<=s.length->
 zob F f s (s.length:Int) (i:Int) acc=some (zwP (acc++zac r,true),[]):=by
 intro r
 induction r with
 | nil=>
  intro f i acc hd ha hf hi
  have:i=s.length:=by have:=congrArg List.length hd;simp at this;omega
  cases f with
  | zero=>omega
  | succ f=>
   rw[zqM]
   refine zea ?_
   simp[zac,zwP]
 | cons c r ih=>
  intro f i acc hd ha hf hi
  obtain⟨h1,h2,h3⟩:=yg hd
  cases f with
  | zero=>omega
  | succ f=>
   have hlt:=c.toNat_lt
   have hl:=zjl (c.toNat:Int)
   rw[zqM]
   refine zd9 ?_
   refine zy ?_
   rw[Int.toNat_natCast,h1]
   refine zy ?_
   refine zd (by omega) ?_
   refine zy ?_
   have e:(i:Int)+1=((i+1:Nat):Int):=by omega
   rw[e,ih f (i+1) _ h2 (by simp;omega) (by simp at hf;omega) (by omega)]
   simp[zac]
theorem zNG(s b:List UInt8)(h:s.length<=1000000/\b.length<=1000000):zMe (b.length+1) s b=some (zwP (zct s b),[]):=by
 rw[zMd,zct]
 refine zd (by have:=h.1;omega) ?_
 generalize zL s=q
 have hyes:q=zfU\/q=zdF->zkb (b.length+1) b q true=some (zwP (if q=zfU\/q=zdF then(b,zaS b) else if q=zx1 then(zac b,true) else([],false)),[]):=fun hq=>by
  rw[zqN,if_pos hq]
  exact zi rfl (zd h.2 rfl)
 have hno:¬ (q=zfU\/q=zdF)->zkb (b.length+1) b q false=some (zwP (if q=zfU\/q=zdF then(b,zaS b) else if q=zx1 then(zac b,true) else([],false)),[]):=fun hq=>by
  rw[zqN,if_neg hq]
  refine zg rfl ?_
  by_cases hi:q=zx1
  .refine zi (by rw[hi];rfl) ?_
   rw[if_pos hi]
   exact zCQ _ b h.2 b (b.length+1) 0 [] rfl (by simp) (by omega) (by omega)
  .refine zg (by simpa using hi) ?_
   rw[if_neg hi];rfl
 by_cases h1:q=zfU
 .refine zi (by rw[h1];rfl) ?_
  rw[show(q==([117,116,102,45,56]:List UInt8))=true by rw[h1];rfl]
  exact hyes (.inl h1)
 .refine zg (by simpa using h1) ?_
  by_cases h2:q=zdF
  .rw [show(q==([117,115,45,97,115,99,105,105]:List UInt8))=true by rw[h2];rfl]
   exact hyes (.inr h2)
  .rw [show(q==([117,115,45,97,115,99,105,105]:List UInt8))=false by simpa using h2]
   exact hno (fun h=>h.elim h1 h2)
def zt4:List AV->Option (AV×Option Prop)
 | [.p (.str s),.p (.str b)]=>some (.tup [.p (.str ((zct s b).1)),.p (.bool ((zct s b).2))],some (s.length<=1000000/\b.length<=1000000))
 | _=>none
theorem zOh:zn Tryz.prog 117 zt4:=by
 intro zs r ok he hok
 unfold zt4 at he
 split at he
 .cases he;exact⟨by kernel_rfl,zO7 (_) _ _ _ fun hx=>zNG _ _ hok⟩
 .cases he
end Go.Proofs.YtampckbjinodgaaGreatDoor
/-! The long literals. -/
namespace Go.Proofs.YtampckbjinodgaaGreatDoor
def yz:List UInt8:=[65,66,67,68,69,70,71,72,73,74,75,76,77,78,79,80,81,82,83,84,85,86,87,88,89,90,97,98,99,100,101,102,103,104,105,106,107,108,109,110,111,112,113,114,115,116,117,118,119,120,121,122,48,49,50,51,52,53,54,55,56,57,43,47]
end Go.Proofs.YtampckbjinodgaaGreatDoor
namespace Go.Proofs.YtampckbjinodgaaGreatDoor
open Go Go.Am
def zCu(fuel:Nat) :Option (List UInt8):=some yz
def zBf:Code:=yw Tryz.f190
def zKL:Env:=zh1 []
theorem zxO:zau Tryz.prog zKL:=zbQ trivial
theorem zSO(fuel:Nat)  (res:List UInt8)(h:zCu fuel =some res)(C:Ctx)(hC:zbA C 1 []):
 T Tryz.prog C (at_ zBf []) (mkS [] []) (zP0 Tryz.prog C Tryz.f190.results.toList (.p (.str res))):=by
 have henv:=zxO
 unfold zCu at h
 refine zl4 (p:=[]) (by kernel_rfl) ?_
 refine ztj henv hC [] [] [] [] (by kernel_rfl) (by kernel_rfl) trivial (fun s1 hs1=>?_)
 refine(T.weaken ?_ hs1:T Tryz.prog C (at_ zBf [1]) _ _)
 refine zl4 (p:=[1]) (by kernel_rfl) ?_
 refine ztj henv hC [] [(0,.p (.str yz))] [] [] (by kernel_rfl) (by kernel_rfl) trivial (fun s1 hs1=>?_)
 refine(T.weaken ?_ hs1:T Tryz.prog C (at_ zBf [1,1]) _ _)
 refine zBm (p:=[1,1]) (by kernel_rfl) ?_
 have h:=Option.some.inj h;subst h
 exact⟨mkS [(0,.p (.str yz))] [],(Sub.refl _),by kernel_rfl⟩
theorem zKv(fuel:Nat)  (res:List UInt8)(h:(∃ M vs,zB γ0 M [] vs)->zCu fuel =some res):FnP Tryz.prog 190 [] (.p (.str res)):=
 zj5 (fn:=Tryz.f190) (by kernel_rfl) (by kernel_rfl) fun M vs hvs C hC0=>have hC:zbA C 1 []:=⟨hC0.nt.trans (by kernel_rfl),hC0.fx⟩;T.weaken (zSO fuel  res (h ⟨M,vs,hvs⟩) C hC) (zlD hC (by kernel_rfl) (by kernel_rfl))
abbrev zLh:List UInt8:=yz
theorem ztf:yz.length=64:=by decide
def zo0:List AV->Option (AV×Option Prop)
 | []=>some (.p (.str zLh),none)
 | _=>none
theorem zJj:zn Tryz.prog 190 zo0:=by
 intro zs r ok h hok
 unfold zo0 at h
 split at h
 .cases h;exact⟨by kernel_rfl,zKv 0 _ fun _=>rfl⟩
 .cases h
def zS7(fuel:Nat)(s:List UInt8)(c:Int):Option Int:=some (ixS s c)
def zSK:Code:=yw Tryz.f74
def zSD:Env:=zh1 [(108,znM)]
theorem zGH:zau Tryz.prog zSD:=zbQ ⟨zDq.any,trivial⟩
theorem Tixb(fuel:Nat)(s:List UInt8)(c res:Int)(h:zS7 fuel s c=some res)(C:Ctx)(hC:zbA C 8 []):
 T Tryz.prog C (at_ zSK []) (mkS [(0,.p (.str s)),(1,.p (.int .u8 c))] []) (zP0 Tryz.prog C Tryz.f74.results.toList (.p (.int .i64 res))):=by
 have henv:=zGH
 unfold zS7 at h
 refine zl4 (p:=[]) (by kernel_rfl) ?_
 refine ztj henv hC [] [(0,.p (.str s)),(1,.p (.int .u8 c))] [] [] (by kernel_rfl) (by kernel_rfl) trivial (fun s1 hs1=>?_)
 refine(T.weaken ?_ hs1:T Tryz.prog C (at_ zSK [1]) _ _)
 refine zl4 (p:=[1]) (by kernel_rfl) ?_
 refine ztj henv hC [] [(4,.p (.int .i64 (ixS s c)))] [] [] (by kernel_rfl) (by kernel_rfl) trivial (fun s1 hs1=>?_)
 refine(T.weaken ?_ hs1:T Tryz.prog C (at_ zSK [1,1]) _ _)
 refine zBm (p:=[1,1]) (by kernel_rfl) ?_
 have h:=Option.some.inj h;subst h
 exact⟨mkS [(4,.p (.int .i64 (ixS s c)))] [],(Sub.refl _),by kernel_rfl⟩
theorem zSt(fuel:Nat)(s:List UInt8)(c res:Int)(h:(∃ M vs,zB γ0 M [.p (.str s),.p (.int .u8 c)] vs)->zS7 fuel s c=some res):FnP Tryz.prog 74 [.p (.str s),.p (.int .u8 c)] (.p (.int .i64 res)):=
 zj5 (fn:=Tryz.f74) (by kernel_rfl) (by kernel_rfl) fun M vs hvs C hC0=>have hC:zbA C 8 []:=⟨hC0.nt.trans (by kernel_rfl),hC0.fx⟩;T.weaken (Tixb fuel s c res (h ⟨M,vs,hvs⟩) C hC) (zlD hC (by kernel_rfl) (by kernel_rfl))
def zlt:List AV->Option (AV×Option Prop):=zdm
theorem zAw:zn Tryz.prog 74 zlt:=by
 intro zs r ok h hok
 unfold zlt zdm at h
 split at h
 .cases h;exact⟨by kernel_rfl,zSt 0 _ _ _ fun _=>rfl⟩
 .cases h
def zgA:=mkG [(74,zlt)] [] 65 [] [([0,1,0,1,1,1],⟨[0,3,4,5,9,10],[⟨.slot 3,3,(.barr 5 false [])⟩]⟩),([1,1,1,1,1,0,0,1,1,0,0,1,0,1,1,1],⟨[0,3,4,5,9,10],[⟨.slot 3,3,(.barr 5 false [])⟩]⟩),([1,0,1,1,1,1,1,1,1,0,0,1,1,0,0,1,0,1,1,1],⟨[0,3,9,10],[⟨.slot 3,3,(.barr 5 false [])⟩]⟩),([1,1,1,0,0,1,0,1,1,1],⟨[0,3,4,5,9,10],[⟨.slot 3,3,(.barr 5 false [])⟩]⟩),([1,1,1,1],⟨[3,4,5],[⟨.slot 3,3,(.barr 5 false [])⟩]⟩),([1,1,1,1,1],⟨[3],[⟨.slot 3,3,(.barr 5 false [])⟩]⟩)] []
def zk3(F f1:Nat)(s:List UInt8)(vi1 vi2 vi3 vi4:Int)(vb5:List UInt8):=zH zgA Tryz.f114 F [] [1,1,1,0,1,0] f1 [(0,pS s),(3,.arr 3),(4,pI vi1),(5,pI vi2),(9,pI vi3),(10,pI vi4)] [(3,.barr 5 false vb5)]
def zrs(F:Nat)(vi6 vi7:Int)(vb8:List UInt8):=zx zgA Tryz.f114 F [] [1,1,1,1] [(3,.arr 3),(4,pI vi6),(5,pI vi7)] [(3,.barr 5 false vb8)]
def zk2(F:Nat)(vb9:List UInt8):=zx zgA Tryz.f114 F [] [1,1,1,1,1] [(3,.arr 3)] [(3,.barr 5 false vb9)]
def zgQ(F f1:Nat)(s:List UInt8)(vi10 vi11 vi3 vi4:Int)(vb12:List UInt8):=zx zgA Tryz.f114 F [f1] [1,1,1,0,1,0,0,1,1,1] [(0,pS s),(3,.arr 3),(4,pI vi10),(5,pI vi11),(9,pI vi3),(10,pI vi4)] [(3,.barr 5 false vb12)]
def zrr(F f1:Nat)(s:List UInt8)(vi13 vi2 vi3 vi4:Int)(vb5:List UInt8):=zx zgA Tryz.f114 F [f1] [1,1,1,0,1,0,0,1,1,0,0,1,1,1,1,1] [(0,pS s),(3,.arr 3),(4,pI vi13),(5,pI vi2),(9,pI vi3),(10,pI vi4)] [(3,.barr 5 false vb5)]
def zzC(F f1:Nat)(s:List UInt8)(vi3 vi4:Int)(vb14:List UInt8):=zx zgA Tryz.f114 F [f1] [1,1,1,0,1,0,0,1,1,0,0,1,1,1,1,1,1,1,0,1] [(0,pS s),(3,.arr 3),(9,pI vi3),(10,pI vi4)] [(3,.barr 5 false vb14)]
def zCy(F:Nat)(s:List UInt8):=zF zgA Tryz.f114 F [pS s]
theorem zzG(F f1 s vi1 vi2 vi3 vi4 vb5):letI A:=((s.getD vi4.toNat 0).toNat:Int);letI B:=0<=vi4/\vi4<(s.length:Int);letI C:=zrs F vi1 vi2 vb5;letI D:=ixS yz A;zk3 F (f1+1) s vi1 vi2 vi3 vi4 vb5=cond (decide (vi4<vi3)) (ze B (cond (A==61) C (ze B (cond (decide (D<0)) (zgQ F f1 s vi1 vi2 vi3 vi4 vb5) (zrr F f1 s (zO .or .i64 (IntKind.i64.wrap (vi1*64)) D) vi2 vi3 vi4 vb5))))) C:=Eq.trans (by kernel_rfl) (zj (zf (zj rfl (zf (zj rfl (zl (show 0<=(6:Int) from(by decide)) rfl))))) rfl)
theorem zzF(F vi6 vi7 vb8):letI A:=(IntKind.u8.wrap (vi6.fdiv 1024)).toNat;letI B:=(IntKind.u8.wrap (vi6.fdiv 16)).toNat;letI C:=(IntKind.u8.wrap (vi6.fdiv 4)).toNat;zrs F vi6 vi7 vb8=cond (vi7==2) (ze ((vb8.length+[UInt8.ofNat B].length)*1<=140737488355328) (zk2 F (vb8++[UInt8.ofNat B]))) (cond (vi7==3) (ze ((vb8.length+[UInt8.ofNat A,UInt8.ofNat C].length)*1<=140737488355328) (zk2 F (vb8++[UInt8.ofNat A,UInt8.ofNat C]))) (zk2 F vb8)):=Eq.trans (by kernel_rfl) (zj (zl (show 0<=(4:Int) from(by decide)) rfl) (zj (zl (show 0<=(10:Int) from(by decide)) (zl (show 0<=(2:Int) from(by decide)) rfl)) rfl))
theorem zgR(F vb9):zk2 F vb9=some (.p (.str vb9),[]):=by kernel_rfl
theorem zzE(F f1 s vi10 vi11 vi3 vi4 vb12):zgQ F f1 s vi10 vi11 vi3 vi4 vb12=ze (zh (vi4+1)) (zk3 F f1 s vi10 vi11 vi3 (vi4+1) vb12):=by kernel_rfl
theorem zzD(F f1 s vi13 vi2 vi3 vi4 vb5):letI A:=(IntKind.u8.wrap (vi13.fdiv 65536)).toNat;letI B:=(IntKind.u8.wrap (vi13.fdiv 256)).toNat;letI C:=(IntKind.u8.wrap vi13).toNat;letI D:=vi2+1;zrr F f1 s vi13 vi2 vi3 vi4 vb5=ze (zh D) (cond (D==4) (ze ((vb5.length+[UInt8.ofNat A,UInt8.ofNat B,UInt8.ofNat C].length)*1<=140737488355328) (zzC F f1 s vi3 vi4 (vb5++[UInt8.ofNat A,UInt8.ofNat B,UInt8.ofNat C]))) (zgQ F f1 s vi13 D vi3 vi4 vb5)):=Eq.trans (by kernel_rfl) (zf (zj (zl (show 0<=(16:Int) from(by decide)) (zl (show 0<=(8:Int) from(by decide)) rfl)) rfl))
theorem zzB(F f1 s vi3 vi4 vb14):zzC F f1 s vi3 vi4 vb14=zgQ F f1 s 0 0 vi3 vi4 vb14:=by kernel_rfl
theorem zHG(F s):zCy F s=zk3 F F s 0 0 (s.length:Int) 0 []:=by kernel_rfl
theorem zKx(F s r):IsP 114 (zCy F s) [.p (.str s)] r:=zG zgA rfl ⟨zAw.any,trivial⟩
def zcn(c:UInt8):Int:=ixS yz (c.toNat:Int)
theorem ziq(c:UInt8):-1<=zcn c/\zcn c<64:=by
 unfold zcn ixS
 have h1:=Lib.indexByte_ge yz ((c.toNat:Int)).toNat.toUInt8
 have h2:=zcY yz ((c.toNat:Int)).toNat.toUInt8
 rw[ztf]at h2
 omega
def zmm(bits n:Nat):List UInt8:=if n=2 then[UInt8.ofNat (bits/16)] else if n=3 then[UInt8.ofNat (bits/1024),UInt8.ofNat (bits/4)] else[]
def zbs:Nat->Nat->List UInt8->List UInt8
 | bits,n,[]=>zmm bits n
 | bits,n,c::r=>if c=61 then zmm bits n else if zcn c<0 then zbs bits n r else
  if n+1=4 then[UInt8.ofNat ((bits*64+(zcn c).toNat)/65536),UInt8.ofNat ((bits*64+(zcn c).toNat)/256),UInt8.ofNat (bits*64+(zcn c).toNat)]++zbs 0 0 r
  else zbs (bits*64+(zcn c).toNat) (n+1) r
def zfj(s:List UInt8):List UInt8:=zbs 0 0 s
theorem zh4(x m:Nat):(x:Int).fdiv (m:Int)=((x/m:Nat):Int):=by
 rw[Int.fdiv_eq_ediv_of_nonneg _ (Int.natCast_nonneg m),Int.natCast_ediv]
theorem znv(F bits n:Nat)(b:List UInt8)(hl:b.length<=10000000):zrs F (bits:Int) (n:Int) b=some (.p (.str (b++zmm bits n)),[]):=by
 rw[zzF,show(bits:Int).fdiv 16=_ from zh4 bits 16,show(bits:Int).fdiv 1024=_ from zh4 bits 1024,show(bits:Int).fdiv 4=_ from zh4 bits 4,zcO,zcO,zcO,zgR,zgR,zgR]
 unfold zmm
 by_cases h2:n=2
 .rw [if_pos h2];exact zi (by simp;omega) (zd (by simp;omega) rfl)
 .refine zg (by simp;omega) ?_
  rw[if_neg h2]
  by_cases h3:n=3
  .rw [if_pos h3];exact zi (by simp;omega) (zd (by simp;omega) rfl)
  .rw [if_neg h3,List.append_nil];exact zg (by simp;omega) rfl
theorem put6{c:UInt8}{bits:Nat}(hlt:bits<262144)(h:¬ zcn c<0):zO .or .i64 (IntKind.i64.wrap ((bits:Int)*64)) (zcn c)=((bits*64+(zcn c).toNat:Nat):Int):=by
 have hv:=ziq c
 obtain⟨v,hv2⟩:=Int.eq_ofNat_of_zero_le (show 0<=zcn c by omega)
 rw[hv2,zde (by omega) (by omega),show(bits:Int)*64=((bits*64:Nat):Int) by simp,zpG (by omega) (by omega)]
 have:=zpj bits v 6 (by omega)
 rw[show bits*64=bits*2^6 by rfl,this];simp
theorem zHS(F:Nat)(s:List UInt8)(hs:s.length<=1000000):∀ (f i bits n:Nat) (b:List UInt8),s.length<f+i->i<=s.length->n<=3->bits<64^n->b.length<=3*i->
 zk3 F f s (bits:Int) (n:Int) (s.length:Int) (i:Int) b=some (.p (.str (b++zbs bits n (s.drop i))),[]):=by
 intro f
 induction f with
 | zero=>intro i bits n b h1 h2;omega
 | succ f ih=>
  intro i bits n b h1 h2 hn hbits h3
  have hp:64^n<=64^3:=Nat.pow_le_pow_right (by decide) hn
  have hlt:bits<262144:=Nat.lt_of_lt_of_le hbits hp
  rw[zzG]
  cases hd:s.drop i with
  | nil=>
   have:s.length<=i:=by have:=congrArg List.length hd;simp at this;omega
   rw[zbs]
   exact zg (by simp;omega) (znv F bits n b (by omega))
  | cons c r=>
   obtain⟨e1,e2,e3⟩:=yg hd
   have next:∀ (bits' n':Nat) (b':List UInt8),n'<=3->bits'<64^n'->b'.length<=3*(i+1)->zgQ F f s (bits':Int) (n':Int) (s.length:Int) (i:Int) b'=some (.p (.str (b'++zbs bits' n' r)),[]):=by
    intro bits' n' b' hn' hb' hl'
    rw[zzE,<-e2]
    exact zd (zxk (by omega) (by omega)) (ih (i+1) bits' n' b' (by omega) (by omega) hn' hb' hl')
   rw[Int.toNat_natCast,e1,zbs]
   refine zi (by simp;omega) (zd (by omega) ?_)
   by_cases hc:c=61
   .subst hc
    rw[if_pos rfl]
    exact zi (by decide) (znv F bits n b (by omega))
   .have hv:=ziq c
    rw[if_neg hc]
    refine zg (by simpa using fun e=>hc (zcP (d:=61) |>.1 e)) (zd (by omega) ?_)
    change cond (decide (zcn c<0)) _ (zrr F f s (zO .or .i64 (IntKind.i64.wrap ((bits:Int)*64)) (zcn c)) _ _ _ _)=_
    by_cases hv0:zcn c<0
    .rw [if_pos hv0]
     exact zi (by simpa using hv0) (next bits n b hn hbits (by omega))
    .rw [if_neg hv0,put6 hlt hv0]
     refine zg (by simpa using hv0) ?_
     have hx:bits*64+(zcn c).toNat<16777216:=by omega
     rw[zzD,show(((bits*64+(zcn c).toNat:Nat):Int)).fdiv 65536=_ from zh4 _ 65536,show(((bits*64+(zcn c).toNat:Nat):Int)).fdiv 256=_ from zh4 _ 256,zcO,zcO,zcO]
     refine zd (zxk (by omega) (by omega)) ?_
     by_cases h4:n+1=4
     .rw [if_pos h4]
      refine zi (by simp;omega) (zd (by simp;omega) ?_)
      rw[zzB]
      refine(next 0 0 _ (by omega) (by decide) (by simp;omega)).trans ?_
      simp
     .rw [if_neg h4]
      refine zg (by simp;omega) (next (bits*64+(zcn c).toNat) (n+1) b (by omega) ?_ (by omega))
      rw[Nat.pow_succ];omega
theorem zLm(s:List UInt8)(hs:s.length<=1000000):zCy 1000001 s=some (.p (.str (zfj s)),[]):=by
 rw[zHG]
 exact zHS 1000001 s hs 1000001 0 0 0 [] (by omega) (by omega) (by omega) (by decide) (by simp)
def zwN:List AV->Option (AV×Option Prop):=zsr zfj
theorem zJl:zn Tryz.prog 114 zwN:=zje (by kernel_rfl) fun s hs=>zKx 1000001 s _ fun _=>zLm s hs
theorem zsm(bits n:Nat):(zmm bits n).length<=2:=by unfold zmm;split <;> (try split) <;> simp
theorem zfi:∀ (s:List UInt8) (bits n:Nat),(zbs bits n s).length<=3*s.length+2
 | [],bits,n=>by rw[zbs];have:=zsm bits n;simp;omega
 | c::r,bits,n=>by
  rw[zbs]
  have h0:=zsm bits n
  have h1:=zfi r
  split
  .simp;omega
  .split
   .have:=h1 bits n;simp;omega
   .split
    .have:=h1 0 0;simp;omega
    .have:=h1 (bits*64+(zcn c).toNat) (n+1);simp;omega
def zLK:=mkG [] [] 35 [] [] []
def zCl(F:Nat)(c:Int):=zF zLK Tryz.f144 F [.p (.int .u8 c)]
theorem ztr(F c):letI A:=(IntKind.u8.wrap (c-97))+10;letI B:=(IntKind.u8.wrap (c-65))+10;zCl F c=cond ((decide (c>=48))&&(decide (c<=57))) (some (.p (.int .i64 (IntKind.u8.wrap (c-48))),[])) (cond ((decide (c>=97))&&(decide (c<=102))) (ze (zh A) (some (.p (.int .i64 A),[]))) (cond ((decide (c>=65))&&(decide (c<=70))) (ze (zh B) (some (.p (.int .i64 B),[]))) (some (.p (.int .i64 (-1:Int)),[])))):=letI A:=(decide (c>=48))=true;letI B:=(decide (c>=97))=true;letI C:=(decide (c>=65))=true;Eq.trans (by kernel_rfl) (nI A (nI A (zj rfl (nI B (nI B (zj rfl (nI C (nI C rfl))))))))
theorem zKm(F c r):IsP 144 (zCl F c) [.p (.int .u8 c)] r:=zG zLK rfl trivial
def zQ2:=mkG [] [] 35 [] [] []
def zMV(F:Nat)(c:Int):=zF zQ2 Tryz.f191 F [.p (.int .u8 c)]
theorem zMU(F c):letI A:=(IntKind.u8.wrap (c-97))+10;letI B:=(IntKind.u8.wrap (c-65))+10;zMV F c=cond ((decide (c>=48))&&(decide (c<=57))) (some (.p (.int .i64 (IntKind.u8.wrap (c-48))),[])) (cond ((decide (c>=97))&&(decide (c<=102))) (ze (zh A) (some (.p (.int .i64 A),[]))) (cond ((decide (c>=65))&&(decide (c<=70))) (ze (zh B) (some (.p (.int .i64 B),[]))) (some (.p (.int .i64 (-1:Int)),[])))):=letI A:=(decide (c>=48))=true;letI B:=(decide (c>=97))=true;letI C:=(decide (c>=65))=true;Eq.trans (by kernel_rfl) (nI A (nI A (zj rfl (nI B (nI B (zj rfl (nI C (nI C rfl))))))))
theorem zPr(F c r):IsP 191 (zMV F c) [.p (.int .u8 c)] r:=zG zQ2 rfl trivial
def digitS(c:Int):Int:=if 48<=c/\c<=57 then c-48 else if 97<=c/\c<=102 then c-87 else if 65<=c/\c<=70 then c-55 else -1
theorem zi5{n:Int}(h0:0<=n)(h1:n<256):IntKind.u8.wrap n=n:=by
 have e:(2:Int)^IntKind.u8.bits=256:=rfl
 have e2:IntKind.u8.signed=false:=rfl
 simp only[IntKind.wrap,e,e2,Bool.false_and,Bool.false_eq_true,if_false]
 omega
theorem zd5{n:Int}(h0:-1000000000000<=n)(h1:n<=1000000000000):zh n:=by
 unfold zh
 omega
theorem zxS(c:Int):zCl 0 c=some (.p (.int .i64 (digitS c)),[]):=by
 rw[ztr];unfold digitS
 by_cases h1:48<=c/\c<=57
 .refine zi (by simp;omega) ?_
  rw[if_pos h1,zi5 (by omega) (by omega)]
 .refine zg (by simp;omega) ?_
  rw[if_neg h1]
  by_cases h2:97<=c/\c<=102
  .rw [if_pos h2,zi5 (n:=c-97) (by omega) (by omega),show c-97+10=c-87 by omega]
   exact zi (by simp;omega) (zd (zd5 (by omega) (by omega)) rfl)
  .refine zg (by simp;omega) ?_
   rw[if_neg h2]
   by_cases h3:65<=c/\c<=70
   .rw [if_pos h3,zi5 (n:=c-65) (by omega) (by omega),show c-65+10=c-55 by omega]
    exact zi (by simp;omega) (zd (zd5 (by omega) (by omega)) rfl)
   .rw [if_neg h3]
    exact zg (by simp;omega) rfl
theorem zOR(c:Int):zMV 0 c=some (.p (.int .i64 (digitS c)),[]):=(zMU 0 c).trans ((ztr 0 c).symm.trans (zxS c))
def zga:List AV->Option (AV×Option Prop)
 | [.p (.int .u8 c)]=>some (.p (.int .i64 (digitS c)),none)
 | _=>none
theorem zJe:zn Tryz.prog 144 zga:=by
 intro zs r ok h _
 unfold zga at h
 split at h
 .cases h;exact⟨by kernel_rfl,zKm 0 _ _ fun _=>zxS _⟩
 .cases h
def zui:List AV->Option (AV×Option Prop):=zga
theorem zOx:zn Tryz.prog 191 zui:=by
 intro zs r ok h _
 unfold zui zga at h
 split at h
 .cases h;exact⟨by kernel_rfl,zPr 0 _ _ fun _=>zOR _⟩
 .cases h
def zcC:=mkG [(144,zga)] [] 89 [] [([0,1,0,1,1],⟨[0,3,4],[⟨.slot 3,3,(.barr 5 false [])⟩]⟩),([1,1,1,0,1,0,0,1,0,0,1,0,1,1],⟨[0,3,4,5,30],[⟨.slot 3,3,(.barr 5 false [])⟩]⟩),([1,0,1,1,1,0,1,0,0,1,0,0,1,0,1,1],⟨[0,3,4],[⟨.slot 3,3,(.barr 5 false [])⟩]⟩),([1,1,1,1,1,0,1,0,0,1,0,0,1,0,1,1],⟨[0,3,4,5,60],[⟨.slot 3,3,(.barr 5 false [])⟩]⟩),([1,1,1,1,1,1,1,0,1,0,0,1,0,0,1,0,1,1],⟨[0,3,4,71],[⟨.slot 3,3,(.barr 5 false [])⟩]⟩),([1,1,0,0,1,0,1,1],⟨[0,3,4],[⟨.slot 3,3,(.barr 5 false [])⟩]⟩)] []
def zfQ(F f1:Nat)(s:List UInt8)(vi1:Int)(vb2:List UInt8):=zH zcC Tryz.f115 F [] [1,1,0,1,0] f1 [(0,pS s),(3,.arr 3),(4,pI vi1)] [(3,.barr 5 false vb2)]
def za6(F f1:Nat)(s:List UInt8)(vi3:Int)(vb4:List UInt8):=zx zcC Tryz.f115 F [f1] [1,1,0,1,0,0,1,1] [(0,pS s),(3,.arr 3),(4,pI vi3)] [(3,.barr 5 false vb4)]
def zrq(F f1:Nat)(s:List UInt8)(vi1:Int)(vs5:List UInt8)(vc6:Bool)(vb2:List UInt8):=zx zcC Tryz.f115 F [f1] [1,1,0,1,0,0,1,0,0,1,0,1,1,1] [(0,pS s),(3,.arr 3),(4,pI vi1),(5,pS vs5),(30,pB vc6)] [(3,.barr 5 false vb2)]
def zrp(F f1:Nat)(s:List UInt8)(vi1:Int)(vb7:List UInt8):=zx zcC Tryz.f115 F [f1] [1,1,0,1,0,0,1,0,0,1,0,1,1,1,0,1] [(0,pS s),(3,.arr 3),(4,pI vi1)] [(3,.barr 5 false vb7)]
def zro(F f1:Nat)(s:List UInt8)(vi1:Int)(vs5:List UInt8)(vc8:Bool)(vb2:List UInt8):=zx zcC Tryz.f115 F [f1] [1,1,0,1,0,0,1,0,0,1,0,1,1,1,1,1] [(0,pS s),(3,.arr 3),(4,pI vi1),(5,pS vs5),(60,pB vc8)] [(3,.barr 5 false vb2)]
def zi3(F f1:Nat)(s:List UInt8)(vi1:Int)(vc9:Bool)(vb2:List UInt8):=zx zcC Tryz.f115 F [f1] [1,1,0,1,0,0,1,0,0,1,0,1,1,1,1,1,1,1] [(0,pS s),(3,.arr 3),(4,pI vi1),(71,pB vc9)] [(3,.barr 5 false vb2)]
def zqv(F:Nat)(s:List UInt8):=zF zcC Tryz.f115 F [pS s]
theorem zsd(F f1 s vi1 vb2):letI C:=((s.getD vi1.toNat 0).toNat:Int);letI D:=(s.length:Int);letI H:=0<=vi1/\vi1<D;letI I:=vi1+1;letI A:=s.drop I.toNat;letI E:=(A.length:Int);letI B:=(decide (E>1))&&(decide ((digitS ((A.getD (0:Int).toNat 0).toNat:Int))>=0));letI J:=(1:Int);zfQ F (f1+1) s vi1 vb2=cond (decide (vi1<D)) (ze (zh I) (ze (0<=I/\I<=D) (ze H (cond (C != 61) (ze H (ze ((vb2.length+[UInt8.ofNat C.toNat].length)*1<=140737488355328) (za6 F f1 s vi1 (vb2++[UInt8.ofNat C.toNat])))) (ze ((decide (E>1))=true->0<=(0:Int)/\(0:Int)<E) (ze (B=true->0<=J/\J<E) (zrq F f1 s vi1 A (B&&(decide ((digitS ((A.getD J.toNat 0).toNat:Int))>=0))) vb2))))))) (some (.p (.str vb2),[])):=letI A:=((decide (((s.drop (vi1+1).toNat).length:Int)>1))&&(decide ((digitS (((s.drop (vi1+1).toNat).getD (0:Int).toNat 0).toNat:Int))>=0)))=true;letI B:=(decide (((s.drop (vi1+1).toNat).length:Int)>1))=true;Eq.trans (by kernel_rfl) (zj (zf (zf (zf (zj rfl (nI B (zf (nI B (nI B (nI B (nI A (zf (nI A (nI A (nI A rfl)))))))))))))) rfl)
theorem zsc(F f1 s vi3 vb4):za6 F f1 s vi3 vb4=ze (zh (vi3+1)) (zfQ F f1 s (vi3+1) vb4):=by kernel_rfl
theorem zew(F f1 s vi1 vs5 vc6 vb2):letI B:=(vs5.length:Int);letI C:=(0:Int);letI A:=(IntKind.u8.wrap (zO .or .i64 (IntKind.i64.wrap ((digitS ((vs5.getD C.toNat 0).toNat:Int))*16)) (digitS ((vs5.getD (1:Int).toNat 0).toNat:Int)))).toNat;letI D:=decide (B>0);zrq F f1 s vi1 vs5 vc6 vb2=cond vc6 (ze (0<=C/\C<B) (ze (0<=(1:Int)/\(1:Int)<B) (ze ((vb2.length+[UInt8.ofNat A].length)*1<=140737488355328) (zrp F f1 s vi1 (vb2++[UInt8.ofNat A]))))) (ze (D=true->0<=C/\C<B) (zro F f1 s vi1 vs5 (D&&(((vs5.getD C.toNat 0).toNat:Int)==10)) vb2)):=letI A:=(decide ((vs5.length:Int)>0))=true;Eq.trans (by kernel_rfl) (zj (zf (zl (show 0<=(4:Int) from(by decide)) rfl)) (nI A (zf (nI A (nI A rfl)))))
theorem zsb(F f1 s vi1 vb7):zrp F f1 s vi1 vb7=ze (zh (vi1+2)) (za6 F f1 s (vi1+2) vb7):=by kernel_rfl
theorem zev(F f1 s vi1 vs5 vc8 vb2):letI B:=(vs5.length:Int);letI A:=(decide (B>1))&&(((vs5.getD (0:Int).toNat 0).toNat:Int)==13);letI C:=(1:Int);zro F f1 s vi1 vs5 vc8 vb2=cond vc8 (ze (zh (vi1+1)) (za6 F f1 s (vi1+1) vb2)) (ze ((decide (B>1))=true->0<=(0:Int)/\(0:Int)<B) (ze (A=true->0<=C/\C<B) (zi3 F f1 s vi1 (A&&(((vs5.getD C.toNat 0).toNat:Int)==10)) vb2))):=letI A:=((decide ((vs5.length:Int)>1))&&(((vs5.getD (0:Int).toNat 0).toNat:Int)==13))=true;letI B:=(decide ((vs5.length:Int)>1))=true;Eq.trans (by kernel_rfl) (zj rfl (nI B (zf (nI B (nI B (nI A (zf (nI A (nI A rfl)))))))))
theorem zin(F f1 s vi1 vc9 vb2):zi3 F f1 s vi1 vc9 vb2=cond vc9 (ze (zh (vi1+2)) (za6 F f1 s (vi1+2) vb2)) (ze ((vb2.length+[UInt8.ofNat (61:Int).toNat].length)*1<=140737488355328) (za6 F f1 s vi1 (vb2++[UInt8.ofNat (61:Int).toNat]))):=by kernel_rfl
theorem zyD(F s):zqv F s=zfQ F F s 0 []:=by kernel_rfl
theorem zA2(F s r):IsP 115 (zqv F s) [.p (.str s)] r:=zG zcC rfl ⟨zJe.any,trivial⟩
def zJK(x y:UInt8):UInt8:=UInt8.ofNat (16*digitS x.toNat+digitS y.toNat).toNat
def isHex(x:UInt8):Prop:=0<=digitS x.toNat
instance (x:UInt8):Decidable (isHex x):=inferInstanceAs (Decidable (0<=digitS x.toNat))
def zaD:List UInt8->List UInt8
 | []=>[]
 | c::r=>if c≠61 then c::zaD r else
  match r with
  | x::y::t=>if isHex x/\isHex y then zJK x y::zaD t else if x=10 then zaD (y::t) else if x=13/\y=10 then zaD t else 61::zaD (x::y::t)
  | [x]=>if x=10 then[] else 61::zaD [x]
  | []=>[61]
termination_by l=>l.length
decreasing_by all_goals (simp;try omega)
theorem zcw:zaD []=[]:=by rw[zaD.eq_def]
theorem zus{c:UInt8}(h:c≠61)(r:List UInt8):zaD (c::r)=c::zaD r:=by rw[zaD.eq_def];simp[h]
theorem zAi:zaD [61]=[61]:=by rw[zaD.eq_def];simp
theorem zAh(x:UInt8):zaD [61,x]=if x=10 then[] else 61::zaD [x]:=by rw[zaD.eq_def];simp
theorem zAg(x y:UInt8)(t:List UInt8):zaD (61::x::y::t)=if isHex x/\isHex y then zJK x y::zaD t else if x=10 then zaD (y::t) else if x=13/\y=10 then zaD t else 61::zaD (x::y::t):=by
 rw[zaD.eq_def];simp
theorem zhh(c:Int):digitS c<16/\-1<=digitS c:=by unfold digitS;split <;> (try split) <;> (try split) <;> omega
theorem zFm{a b:Int}(ha:0<=a)(ha2:a<16)(hb:0<=b)(hb2:b<16):IntKind.u8.wrap (zO .or .i64 (IntKind.i64.wrap (a*16)) b)=16*a+b:=by
 obtain⟨x,rfl⟩:=Int.eq_ofNat_of_zero_le ha
 obtain⟨y,rfl⟩:=Int.eq_ofNat_of_zero_le hb
 have hx:x<16:=by omega
 have hy:y<16:=by omega
 have:∀ x:Fin 16,∀ y:Fin 16,IntKind.u8.wrap (zO .or .i64 (IntKind.i64.wrap (((x.val:Nat):Int)*16)) ((y.val:Nat):Int))=16*((x.val:Nat):Int)+((y.val:Nat):Int):=by decide
 exact this ⟨x,hx⟩ ⟨y,hy⟩
theorem zzA(F:Nat)(s:List UInt8)(hs:s.length<=1000000):∀ (f i:Nat) (b:List UInt8),s.length<f+i->i<=s.length->b.length<=i->
 zfQ F f s (i:Int) b=some (.p (.str (b++zaD (s.drop i))),[]):=by
 intro f
 induction f with
 | zero=>intro i b h1 h2;omega
 | succ f ih=>
  intro i b h1 h2 h3
  rw[zsd]
  cases hd:s.drop i with
  | nil=>
   have:s.length<=i:=by have:=congrArg List.length hd;simp at this;omega
   rw[zcw,List.append_nil]
   exact zg (by simp;omega) rfl
  | cons c r=>
   obtain⟨e1,e2,e3⟩:=yg hd
   have t1:((i:Int)+1).toNat=i+1:=by omega
   have ok:∀ n:Int,0<=n->n<=10000000->zh n:=fun n h h'=>zd5 (by omega) (by omega)
   have next:∀ (k:Nat) (b':List UInt8),i+k+1<=s.length->b'.length<=i+k+1->za6 F f s ((i:Int)+k) b'=some (.p (.str (b'++zaD (s.drop (i+k+1)))),[]):=by
    intro k b' hk hb
    rw[zsc]
    exact zd (ok _ (by omega) (by omega)) (ih (i+k+1) b' (by omega) hk hb)
   have n0:∀ b':List UInt8,b'.length<=i+1->za6 F f s (i:Int) b'=some (.p (.str (b'++zaD r)),[]):=fun b' hb=>by
    rw[<-e2];exact next 0 b' (by omega) hb
   rw[Int.toNat_natCast,e1,t1,e2]
   refine zi (by simp;omega) (zd (ok _ (by omega) (by omega)) (zd ⟨by omega,by omega⟩ (zd (by omega) ?_)))
   by_cases hc:c=61
   .subst hc
    refine zg (by decide) ?_
    have last:∀ (v:Bool),v=false->b.length<=i->zi3 F f s (i:Int) v b=some (.p (.str (b++61::zaD r)),[]):=by
     intro v hv hb
     rw[zin]
     refine zg hv (zd (by simp;omega) ((n0 _ (by simp;omega)).trans ?_))
     simp
    match r,e3,e2,n0,last with
    | [],e3,e2,n0,last=>
     rw[zew,zev,last _ (by simp) h3,zAi,zcw]
     exact zd (by simp) (zd (by simp) (zg (by simp) (zd (by simp) (zg (by simp) (zd (by simp) (zd (by simp) rfl))))))
    | [x],e3,e2,n0,last=>
     simp only[List.length_cons,List.length_nil]at e3
     rw[zew,zev]
     refine zd (by simp) (zd (by simp) (zg (by simp) (zd (by simp) ?_)))
     rw[zAh]
     by_cases hx:x=10
     .subst hx
      rw[if_pos rfl]
      refine zi (by simp) (zd (ok _ (by omega) (by omega)) ((next 1 b (by omega) (by omega)).trans ?_))
      rw[List.drop_of_length_le (by omega),zcw]
     .rw [if_neg hx,last _ (by simp) h3]
      exact zg (by simpa using fun e=>hx (zcP (d:=10) |>.1 e)) (zd (by simp) (zd (by simp) rfl))
    | x::y::t,e3,e2,n0,last=>
     simp only[List.length_cons]at e3
     have dx:=zhh (x.toNat)
     have dy:=zhh (y.toNat)
     have d2:s.drop (i+2+1)=t:=by
      have:(s.drop (i+1)).drop 2=t:=by rw[e2];rfl
      rw[List.drop_drop]at this;exact this
     have d1:s.drop (i+1+1)=y::t:=by
      have:(s.drop (i+1)).drop 1=y::t:=by rw[e2];rfl
      rw[List.drop_drop]at this;exact this
     rw[zAg,zew]
     refine zd (fun _=>by simp only[List.length_cons];omega) (zd (fun _=>by simp only[List.length_cons];omega) ?_)
     by_cases hh:isHex x/\isHex y
     .have h1:(0:Int)<=digitS x.toNat:=hh.1
      have h2':(0:Int)<=digitS y.toNat:=hh.2
      have e:UInt8.ofNat (IntKind.u8.wrap (zO .or .i64 (IntKind.i64.wrap ((digitS ((((x::y::t).getD ((0:Int)).toNat 0).toNat:Int)))*16)) (digitS ((((x::y::t).getD ((1:Int)).toNat 0).toNat:Int))))).toNat=zJK x y:=by
       show UInt8.ofNat (IntKind.u8.wrap (zO .or .i64 (IntKind.i64.wrap ((digitS (x.toNat:Int))*16)) (digitS (y.toNat:Int)))).toNat=_
       rw[zFm h1 dx.1 h2' dy.1];rfl
      rw[e,if_pos hh,zsb]
      refine zi (by simpa using⟨⟨by omega,h1⟩,h2'⟩) (zd (by simp only[List.length_cons];omega) (zd (by simp only[List.length_cons];omega) (zd (by simp;omega) (zd (ok _ (by omega) (by omega)) ?_))))
      refine(next 2 (b++[zJK x y]) (by omega) (by simp;omega)).trans ?_
      rw[d2];simp
     .rw [if_neg hh,zev]
      refine zg (Bool.eq_false_iff.2 fun h=>hh (by simp at h;exact⟨h.1.2,h.2⟩)) (zd (fun _=>by simp only[List.length_cons];omega) ?_)
      by_cases hx:x=10
      .subst hx
       rw[if_pos rfl]
       refine zi (by simp;omega) (zd (ok _ (by omega) (by omega)) ((next 1 b (by omega) (by omega)).trans ?_))
       rw[d1]
      .rw [if_neg hx]
       refine zg (Bool.eq_false_iff.2 fun h=>hx (by simp at h;exact zcP (d:=10) |>.1 h.2)) (zd (fun _=>by simp only[List.length_cons];omega) (zd (fun _=>by simp only[List.length_cons];omega) ?_))
       by_cases hxy:x=13/\y=10
       .obtain ⟨rfl,rfl⟩:=hxy
        rw[if_pos ⟨rfl,rfl⟩,zin]
        refine zi (by simp;omega) (zd (ok _ (by omega) (by omega)) ((next 2 b (by omega) (by omega)).trans ?_))
        rw[d2]
       .rw [if_neg hxy]
        exact last _ (Bool.eq_false_iff.2 fun h=>hxy (by simp at h;exact⟨zcP (d:=13) |>.1 h.1.2,zcP (d:=10) |>.1 h.2⟩)) h3
   .have hc':(((c.toNat:Int) != 61)=true):=by simpa using fun e=>hc (zcP (d:=61) |>.1 e)
    rw[zus hc]
    refine zi hc' (zd (by omega) (zd (by simp;omega) ((n0 _ (by simp;omega)).trans ?_)))
    simp
theorem zBr(s:List UInt8)(hs:s.length<=1000000):zqv 1000001 s=some (.p (.str (zaD s)),[]):=by
 rw[zyD]
 exact zzA 1000001 s hs 1000001 0 [] (by omega) (by omega) (by simp)
def zo2:List AV->Option (AV×Option Prop):=zsr zaD
theorem zAz:zn Tryz.prog 115 zo2:=zje (by kernel_rfl) fun s hs=>zA2 1000001 s _ fun _=>zBr s hs
end Go.Proofs.YtampckbjinodgaaGreatDoor
