/-
  Lifted functions, and facts about them.
-/
import Derived.Test.YtampckbjinodgaaGreatDoorRows
import Derived.Test.YtampckbjinodgaaGreatDoorC01
import Derived.Test.YtampckbjinodgaaGreatDoorAmC
import Derived.Test.YtampckbjinodgaaGreatDoorC02
import Derived.Test.YtampckbjinodgaaGreatDoorC03
set_option linter.unusedVariables false
noncomputable section
namespace Go.Proofs.YtampckbjinodgaaGreatDoor
open Go Go.Am
def zBB:=mkG [] [] 28 [] [([0,1,0,1],⟨[0,1,7],[]⟩)] []
def zk4(F f1:Nat)(s sub:List UInt8)(vi1:Int):=zH zBB Tryz.f24 F [] [1,0,1,0] f1 [(0,pS s),(1,pS sub),(7,pI vi1)] []
def zCz(F:Nat)(s sub:List UInt8)(from_:Int):=zF zBB Tryz.f24 F [pS s,pS sub,pI from_]
theorem zzH(F f1 s sub vi1):letI A:=vi1+(sub.length:Int);letI B:=(s.length:Int);zk4 F (f1+1) s sub vi1=ze (zh A) (cond (decide (A<=B)) (ze (zh A) (ze (0<=vi1/\vi1<=A/\A<=B) (cond (((s.take A.toNat).drop vi1.toNat)==sub) (some (.p (.int .i64 vi1),[])) (ze (zh (vi1+1)) (zk4 F f1 s sub (vi1+1)))))) (some (.p (.int .i64 (-1:Int)),[]))):=by kernel_rfl
theorem zHH(F s sub from_):zCz F s sub from_=zk4 F F s sub from_:=by kernel_rfl
theorem zKy(F s sub from_ r):IsP 24 (zCz F s sub from_) [.p (.str s),.p (.str sub),.p (.int .i64 from_)] r:=zG zBB rfl trivial
def idx(sub:List UInt8):List UInt8->Nat->Int
 | [],i=>if sub.isPrefixOf [] then i else -1
 | c::r,i=>if sub.isPrefixOf (c::r) then i else idx sub r (i+1)
def zbt(s sub:List UInt8)(at0:Int):Int:=idx sub (s.drop at0.toNat) at0.toNat
abbrev zhf(s sub:List UInt8)(at0:Int):Prop:=0<=at0/\at0<=s.length/\s.length+sub.length<=1000000000
theorem zuI(c:UInt8):∀ (l:List UInt8) (i:Nat),idx [c] l i=if Lib.indexByte l c=-1 then -1 else(i:Int)+Lib.indexByte l c
 | [],i=>by simp[idx,Lib.indexByte]
 | b::l,i=>by
  rw[idx,zuI c l]
  have h1:=Lib.indexByte_ge l c
  by_cases h:b=c
  .subst h;simp[List.isPrefixOf,Lib.indexByte]
  .have h':¬ c=b:=fun e=>h e.symm
   simp only[List.isPrefixOf,Lib.indexByte,h,beq_iff_eq,if_false,beq_eq_false_iff_ne.2 h',Bool.false_and,Bool.false_eq_true]
   split
   .simp
   .rename_i h2;rw[if_neg (by omega)];push_cast;omega
theorem zpD(s:List UInt8)(c:UInt8):zbt s [c] 0=Lib.indexByte s c:=by
 unfold zbt
 rw[zuI]
 simp only[Int.toNat_zero,List.drop_zero]
 split
 .rename_i h;exact h.symm
 .simp
theorem zw3{sub s:List UInt8}:(s.take sub.length==sub)=sub.isPrefixOf s:=by
 rw[Bool.eq_iff_iff,beq_iff_eq,List.isPrefixOf_iff_prefix,List.prefix_iff_eq_take]
 exact⟨fun h=>h.symm,fun h=>h.symm⟩
theorem zHT(fuel:Nat)(s sub:List UInt8)(hs:s.length+sub.length<=1000000000):∀ (f i:Nat),s.length+1<f+i->i<=s.length+1->
 zk4 fuel f s sub (i:Int)=some (.p (.int .i64 (if i<=s.length then idx sub (s.drop i) i else -1)),[]):=by
 intro f
 induction f with
 | zero=>intro i h1 h2;omega
 | succ f ih=>
  intro i h1 h2
  rw[zzH]
  refine zd (zxk (by omega) (by omega)) ?_
  by_cases h:i+sub.length<=s.length
  .refine zi (by simp;omega) (zd (zxk (by omega) (by omega)) (zd ⟨by omega,by omega,by omega⟩ ?_))
   have e1:((i:Int)+(sub.length:Int)).toNat=i+sub.length:=by omega
   rw[e1,Int.toNat_natCast,List.drop_take]
   have e2:i+sub.length-i=sub.length:=by omega
   rw[e2,zw3,if_pos (by omega:i<=s.length)]
   cases hd:s.drop i with
   | nil=>
    have:s.length<=i:=by have:=congrArg List.length hd;simp at this;omega
    have:sub=[]:=List.length_eq_zero_iff.1 (by omega)
    subst this
    rw[idx];rfl
   | cons c r=>
    have hr:s.drop (i+1)=r:=by
     have:(s.drop i).drop 1=r:=by rw[hd];rfl
     simpa[List.drop_drop]using this
    have hlen:i<s.length:=by have:=congrArg List.length hd;simp at this;omega
    rw[idx]
    cases hc:sub.isPrefixOf (c::r)with
    | true=>rfl
    | false=>
     refine zg rfl (zd (zxk (by omega) (by omega)) ?_)
     have:=ih (i+1) (by omega) (by omega)
     rw[if_pos (by omega),hr]at this
     exact this
  .refine zg (by simp;omega) ?_
   have none:∀ (l:List UInt8) (k:Nat),l.length<sub.length->idx sub l k=-1:=by
    intro l
    induction l with
    | nil=>
     intro k hk
     rw[idx,if_neg];intro hp
     have:=(List.isPrefixOf_iff_prefix.1 hp).length_le
     simp at this;simp[this]at hk
    | cons c r ih2=>
     intro k hk
     rw[idx,if_neg,ih2 _ (by simp at hk;omega)]
     intro hp
     have:=(List.isPrefixOf_iff_prefix.1 hp).length_le
     omega
   by_cases hi:i<=s.length
   .rw [if_pos hi,none _ _ (by rw[List.length_drop];omega)]
   .rw [if_neg hi]
theorem zLn(s sub:List UInt8)(a:Int)(h:zhf s sub a):zCz 1000000002 s sub a=some (.p (.int .i64 (zbt s sub a)),[]):=by
 obtain⟨h1,h2,h3⟩:=h
 obtain⟨i,rfl⟩:=Int.eq_ofNat_of_zero_le h1
 have:=zHT 1000000002 s sub h3 1000000002 i (by omega) (by omega)
 rw[if_pos (by omega)]at this
 rw[zHH]
 exact this
def zeD:List AV->Option (AV×Option Prop)
 | [.p (.str s),.p (.str sub),.p (.int .i64 a)]=>some (.p (.int .i64 (zbt s sub a)),some (zhf s sub a))
 | _=>none
theorem zjq:zn Tryz.prog 24 zeD:=by
 intro zs r ok he hok
 unfold zeD at he
 split at he
 .cases he;exact⟨by kernel_rfl,zKy 1000000002 _ _ _ _ fun _=>zLn _ _ _ hok⟩
 .cases he
def zef:=mkG [(24,zeD),(190,zo0)] [] 71 [] [([0,1,0,1,1,1,1],⟨[0,3,4,5,6,7],[⟨.slot 4,4,(.barr 5 false [])⟩]⟩),([1,0,1,0,0,1,0,0,1,0,1,1,1,1],⟨[0,3,4,5,6,7,8,30],[⟨.slot 4,4,(.barr 5 false [])⟩]⟩),([1,0,1,1,1,1,1,0,0,1,0,0,1,0,1,1,1,1],⟨[0,3,4,7],[⟨.slot 4,4,(.barr 5 false [])⟩]⟩),([1,1,0,0,1,0,1,1,1,1],⟨[0,3,4,5,6,7],[⟨.slot 4,4,(.barr 5 false [])⟩]⟩),([1,1,1,1,1,1],⟨[4,5,6],[⟨.slot 4,4,(.barr 5 false [])⟩]⟩),([1,1,1,1,1,1,1],⟨[4],[⟨.slot 4,4,(.barr 5 false [])⟩]⟩)] []
def zhD(F f1:Nat)(s vs1:List UInt8)(vi2 vi3 vi4:Int)(vb5:List UInt8):=zH zef Tryz.f175 F [] [1,1,1,1,0,1,0] f1 [(0,pS s),(3,pS vs1),(4,.arr 4),(5,pI vi2),(6,pI vi3),(7,pI vi4)] [(4,.barr 5 false vb5)]
def ztE(F f1:Nat)(s vs1:List UInt8)(vi2 vi3 vi4 vi6:Int)(vc7:Bool)(vb5:List UInt8):=zx zef Tryz.f175 F [f1] [1,1,1,1,0,1,0,0,1,0,0,1,0,1] [(0,pS s),(3,pS vs1),(4,.arr 4),(5,pI vi2),(6,pI vi3),(7,pI vi4),(8,pI vi6),(30,pB vc7)] [(4,.barr 5 false vb5)]
def ze1(F f1:Nat)(s vs1:List UInt8)(vi8 vi9 vi4:Int)(vb10:List UInt8):=zx zef Tryz.f175 F [f1] [1,1,1,1,0,1,0,0,1,1] [(0,pS s),(3,pS vs1),(4,.arr 4),(5,pI vi8),(6,pI vi9),(7,pI vi4)] [(4,.barr 5 false vb10)]
def ztD(F f1:Nat)(s vs1:List UInt8)(vi4:Int)(vb11:List UInt8):=zx zef Tryz.f175 F [f1] [1,1,1,1,0,1,0,0,1,0,0,1,1,1,1,1,0,1] [(0,pS s),(3,pS vs1),(4,.arr 4),(7,pI vi4)] [(4,.barr 5 false vb11)]
def ze0(F:Nat)(vi2 vi3:Int)(vb12:List UInt8):=zx zef Tryz.f175 F [] [1,1,1,1,1,1] [(4,.arr 4),(5,pI vi2),(6,pI vi3)] [(4,.barr 5 false vb12)]
def zmf(F:Nat)(vb13:List UInt8):=zx zef Tryz.f175 F [] [1,1,1,1,1,1,1] [(4,.arr 4)] [(4,.barr 5 false vb13)]
def zvJ(F:Nat)(s:List UInt8):=zF zef Tryz.f175 F [pS s]
theorem zwn(F f1 s vs1 vi2 vi3 vi4 vb5):letI B:=(s.length:Int);letI C:=(IntKind.u8.wrap (vi2.fdiv 16)).toNat;letI D:=decide (vi4<B);letI E:=vi4+1;letI A:=(s.take E.toNat).drop vi4.toNat;letI H:=zbt vs1 A 0;zhD F (f1+1) s vs1 vi2 vi3 vi4 vb5=ze (D=true->0<=vi4/\vi4<B) (cond (D&&(((s.getD vi4.toNat 0).toNat:Int) != 61)) (ze (zh E) (ze (0<=vi4/\vi4<=E/\E<=B) (ze (zhf vs1 A 0) (ztE F f1 s vs1 vi2 vi3 vi4 H (decide (H<0)) vb5)))) (cond (vi3==2) (ze ((vb5.length+[UInt8.ofNat C].length)*1<=140737488355328) (ze0 F vi2 vi3 (vb5++[UInt8.ofNat C]))) (ze0 F vi2 vi3 vb5))):=letI A:=(decide (vi4<(s.length:Int)))=true;Eq.trans (by kernel_rfl) (nI A (nI A (zf (nI A (nI A (zj rfl (zj (zl (show 0<=(4:Int) from(by decide)) rfl) rfl)))))))
theorem zwm(F f1 s vs1 vi2 vi3 vi4 vi6 vc7 vb5):letI A:=zO .or .i64 (IntKind.i64.wrap (vi2*64)) vi6;letI B:=(IntKind.u8.wrap (A.fdiv 65536)).toNat;letI C:=(IntKind.u8.wrap (A.fdiv 256)).toNat;letI D:=(IntKind.u8.wrap A).toNat;letI E:=vi3+1;ztE F f1 s vs1 vi2 vi3 vi4 vi6 vc7 vb5=cond vc7 (ze1 F f1 s vs1 vi2 vi3 vi4 vb5) (ze (zh E) (cond (E==4) (ze ((vb5.length+[UInt8.ofNat B,UInt8.ofNat C,UInt8.ofNat D].length)*1<=140737488355328) (ztD F f1 s vs1 vi4 (vb5++[UInt8.ofNat B,UInt8.ofNat C,UInt8.ofNat D]))) (ze1 F f1 s vs1 A E vi4 vb5))):=Eq.trans (by kernel_rfl) (zj rfl (zl (show 0<=(6:Int) from(by decide)) (zf (zj (zl (show 0<=(16:Int) from(by decide)) (zl (show 0<=(8:Int) from(by decide)) rfl)) rfl))))
theorem zwl(F f1 s vs1 vi8 vi9 vi4 vb10):ze1 F f1 s vs1 vi8 vi9 vi4 vb10=ze (zh (vi4+1)) (zhD F f1 s vs1 vi8 vi9 (vi4+1) vb10):=by kernel_rfl
theorem zwk(F f1 s vs1 vi4 vb11):ztD F f1 s vs1 vi4 vb11=ze1 F f1 s vs1 0 0 vi4 vb11:=by kernel_rfl
theorem zkz(F vi2 vi3 vb12):letI A:=(IntKind.u8.wrap (vi2.fdiv 1024)).toNat;letI B:=(IntKind.u8.wrap (vi2.fdiv 4)).toNat;ze0 F vi2 vi3 vb12=cond (vi3==3) (ze ((vb12.length+[UInt8.ofNat A,UInt8.ofNat B].length)*1<=140737488355328) (zmf F (vb12++[UInt8.ofNat A,UInt8.ofNat B]))) (zmf F vb12):=Eq.trans (by kernel_rfl) (zj (zl (show 0<=(10:Int) from(by decide)) (zl (show 0<=(2:Int) from(by decide)) rfl)) rfl)
theorem zc9(F vb13):zmf F vb13=some (.p (.str vb13),[]):=by kernel_rfl
theorem zBV(F s):zvJ F s=zhD F F s zLh 0 0 0 []:=by kernel_rfl
theorem zGf(F s r):IsP 175 (zvJ F s) [.p (.str s)] r:=zG zef rfl ⟨zjq.any,zJj.any,trivial⟩
theorem zAI(c:UInt8):zbt yz [c] (0:Int)=zcn c:=by
 rw[zpD];unfold zcn ixS
 congr 1
 apply UInt8.toNat_inj.1
 simp
theorem zky(F bits n:Nat)(b:List UInt8)(hl:b.length<=10000000):
 cond ((n:Int)==2) (ze ((b.length+[UInt8.ofNat (IntKind.u8.wrap ((bits:Int).fdiv 16)).toNat].length)*1<=140737488355328) (ze0 F (bits:Int) (n:Int) (b++[UInt8.ofNat (IntKind.u8.wrap ((bits:Int).fdiv 16)).toNat]))) (ze0 F (bits:Int) (n:Int) b)=some (.p (.str (b++zmm bits n)),[]):=by
 rw[zkz,zkz,show(bits:Int).fdiv 16=_ from zh4 bits 16,show(bits:Int).fdiv 1024=_ from zh4 bits 1024,show(bits:Int).fdiv 4=_ from zh4 bits 4,zcO,zcO,zcO,zc9,zc9,zc9,zc9]
 unfold zmm
 by_cases h2:n=2
 .rw [if_pos h2];exact zi (by simp;omega) (zd (by simp;omega) (zg (by simp;omega) rfl))
 .refine zg (by simp;omega) ?_
  rw[if_neg h2]
  by_cases h3:n=3
  .rw [if_pos h3];exact zi (by simp;omega) (zd (by simp;omega) rfl)
  .rw [if_neg h3,List.append_nil];exact zg (by simp;omega) rfl
theorem zC0(F:Nat)(s:List UInt8)(hs:s.length<=1000000):∀ (f i bits n:Nat) (b:List UInt8),s.length<f+i->i<=s.length->n<=3->bits<64^n->b.length<=3*i->
 zhD F f s yz (bits:Int) (n:Int) (i:Int) b=some (.p (.str (b++zbs bits n (s.drop i))),[]):=by
 intro f
 induction f with
 | zero=>intro i bits n b h1 h2;omega
 | succ f ih=>
  intro i bits n b h1 h2 hn hbits h3
  have hp:64^n<=64^3:=Nat.pow_le_pow_right (by decide) hn
  have hlt:bits<262144:=Nat.lt_of_lt_of_le hbits hp
  rw[zwn]
  refine zd (by simp) ?_
  cases hd:s.drop i with
  | nil=>
   have:s.length<=i:=by have:=congrArg List.length hd;simp at this;omega
   rw[zbs]
   exact zg (by simp;omega) (zky F bits n b (by omega))
  | cons c r=>
   obtain⟨e1,e2,e3⟩:=yg hd
   have next:∀ (bits' n':Nat) (b':List UInt8),n'<=3->bits'<64^n'->b'.length<=3*(i+1)->ze1 F f s yz (bits':Int) (n':Int) (i:Int) b'=some (.p (.str (b'++zbs bits' n' r)),[]):=by
    intro bits' n' b' hn' hb' hl'
    rw[zwl,<-e2]
    exact zd (zxk (by omega) (by omega)) (ih (i+1) bits' n' b' (by omega) (by omega) hn' hb' hl')
   have hsl:(s.take ((i:Int)+1).toNat).drop (i:Int).toNat=[c]:=by
    have h1:i+1-i=1:=by omega
    have et:((i:Int)+1).toNat=i+1:=by omega
    rw[et,Int.toNat_natCast,List.drop_take,hd,h1];rfl
   rw[hsl,zAI,Int.toNat_natCast,e1,zbs]
   by_cases hc:c=61
   .subst hc
    rw[if_pos rfl]
    exact zg (by simp) (zky F bits n b (by omega))
   .have hne:¬ ((c.toNat:Int)=61):=fun e=>hc (zcP (d:=61) |>.1 e)
    have hv:=ziq c
    rw[if_neg hc,zwm]
    refine zi (by simp[hne];omega) (zd (zxk (by omega) (by omega)) (zd ⟨by omega,by omega,by omega⟩ (zd ⟨by omega,by omega,by rw[ztf];simp⟩ ?_)))
    by_cases hv0:zcn c<0
    .rw [if_pos hv0]
     exact zi (by simpa using hv0) (next bits n b hn hbits (by omega))
    .rw [if_neg hv0,put6 hlt hv0,show(((bits*64+(zcn c).toNat:Nat):Int)).fdiv 65536=_ from zh4 _ 65536,show(((bits*64+(zcn c).toNat:Nat):Int)).fdiv 256=_ from zh4 _ 256,zcO,zcO,zcO]
     refine zg (by simpa using hv0) (zd (zxk (by omega) (by omega)) ?_)
     by_cases h4:n+1=4
     .rw [if_pos h4]
      refine zi (by simp;omega) (zd (by simp;omega) ?_)
      rw[zwk]
      refine(next 0 0 _ (by omega) (by decide) (by simp;omega)).trans ?_
      simp
     .rw [if_neg h4]
      refine zg (by simp;omega) (next (bits*64+(zcn c).toNat) (n+1) b (by omega) ?_ (by omega))
      rw[Nat.pow_succ];omega
theorem zFd(s:List UInt8)(hs:s.length<=1000000):zvJ 1000001 s=some (.p (.str (zfj s)),[]):=by
 rw[zBV]
 exact zC0 1000001 s hs 1000001 0 0 0 [] (by omega) (by omega) (by omega) (by decide) (by simp)
def zsp:List AV->Option (AV×Option Prop):=zsr zfj
theorem zFw:zn Tryz.prog 175 zsp:=zje (by kernel_rfl) fun s hs=>zGf 1000001 s _ fun _=>zFd s hs
def zfA:=mkG [(191,zui)] [] 114 [] [([0,1,0,1,1],⟨[0,3,4],[⟨.slot 3,3,(.barr 5 false [])⟩]⟩),([1,0,0,1,0,0,1,0,1,1],⟨[0,3,4,17],[⟨.slot 3,3,(.barr 5 false [])⟩]⟩),([1,0,1,0,0,1,0,0,1,0,1,1],⟨[0,3,4],[⟨.slot 3,3,(.barr 5 false [])⟩]⟩),([1,1,1,0,0,1,0,0,1,0,1,1],⟨[0,3,4,63],[⟨.slot 3,3,(.barr 5 false [])⟩]⟩),([1,1,1,1,1,0,0,1,0,0,1,0,1,1],⟨[0,3,4,84],[⟨.slot 3,3,(.barr 5 false [])⟩]⟩)] []
def zbB(F f1:Nat)(s:List UInt8)(vi1:Int)(vb2:List UInt8):=zH zfA Tryz.f176 F [] [1,1,0,1,0] f1 [(0,pS s),(3,.arr 3),(4,pI vi1)] [(3,.barr 5 false vb2)]
def ztO(F f1:Nat)(s:List UInt8)(vi1:Int)(vc3:Bool)(vb2:List UInt8):=zx zfA Tryz.f176 F [f1] [1,1,0,1,0,0,1,0,0,1] [(0,pS s),(3,.arr 3),(4,pI vi1),(17,pB vc3)] [(3,.barr 5 false vb2)]
def ztN(F f1:Nat)(s:List UInt8)(vi1:Int)(vb4:List UInt8):=zx zfA Tryz.f176 F [f1] [1,1,0,1,0,0,1,0,0,1,0,1] [(0,pS s),(3,.arr 3),(4,pI vi1)] [(3,.barr 5 false vb4)]
def ztM(F f1:Nat)(s:List UInt8)(vi1:Int)(vc5:Bool)(vb2:List UInt8):=zx zfA Tryz.f176 F [f1] [1,1,0,1,0,0,1,0,0,1,1,1] [(0,pS s),(3,.arr 3),(4,pI vi1),(63,pB vc5)] [(3,.barr 5 false vb2)]
def zmk(F f1:Nat)(s:List UInt8)(vi1:Int)(vc6:Bool)(vb2:List UInt8):=zx zfA Tryz.f176 F [f1] [1,1,0,1,0,0,1,0,0,1,1,1,1,1] [(0,pS s),(3,.arr 3),(4,pI vi1),(84,pB vc6)] [(3,.barr 5 false vb2)]
def zvW(F:Nat)(s:List UInt8):=zF zfA Tryz.f176 F [pS s]
theorem zwG(F f1 s vi1 vb2):letI C:=(s.length:Int);letI D:=vi1+2;letI A:=(((s.getD vi1.toNat 0).toNat:Int)==61)&&(decide (D<C));letI E:=vi1+1;letI B:=A&&(decide ((digitS ((s.getD E.toNat 0).toNat:Int))>=0));zbB F (f1+1) s vi1 vb2=cond (decide (vi1<C)) (ze (0<=vi1/\vi1<C) (ze ((((s.getD vi1.toNat 0).toNat:Int)==61)=true->zh D) (ze (A=true->zh E) (ze (A=true->0<=E/\E<C) (ze (B=true->zh D) (ze (B=true->0<=D/\D<C) (ztO F f1 s vi1 (B&&(decide ((digitS ((s.getD D.toNat 0).toNat:Int))>=0))) vb2))))))) (some (.p (.str vb2),[])):=letI A:=(((s.getD vi1.toNat 0).toNat:Int)==61)&&(decide ((vi1+2)<(s.length:Int)));letI B:=(A&&(decide ((digitS ((s.getD (vi1+1).toNat 0).toNat:Int))>=0)))=true;letI C:=(((s.getD vi1.toNat 0).toNat:Int)==61)=true;letI D:=A=true;Eq.trans (by kernel_rfl) (zj (zf (nI C (zf (nI C (nI C (nI C (nI C (nI D (zf (nI D (nI D (zf (nI D (nI D (nI D (nI B (zf (nI B (nI B (zf (nI B (nI B (nI B rfl))))))))))))))))))))))) rfl)
theorem zwF(F f1 s vi1 vc3 vb2):letI C:=vi1+1;letI D:=(s.length:Int);letI B:=(((s.getD vi1.toNat 0).toNat:Int)==61)&&(decide (C<D));letI E:=((s.getD C.toNat 0).toNat:Int);letI I:=vi1+2;letI A:=(16*(digitS E))+(digitS ((s.getD I.toNat 0).toNat:Int));letI H:=(IntKind.u8.wrap A).toNat;ztO F f1 s vi1 vc3 vb2=cond vc3 (ze (zh C) (ze (0<=C/\C<D) (ze (zh (16*(digitS E))) (ze (zh I) (ze (0<=I/\I<D) (ze (zh A) (ze ((vb2.length+[UInt8.ofNat H].length)*1<=140737488355328) (ztN F f1 s vi1 (vb2++[UInt8.ofNat H]))))))))) (ze (0<=vi1/\vi1<D) (ze ((((s.getD vi1.toNat 0).toNat:Int)==61)=true->zh C) (ze (B=true->zh C) (ze (B=true->0<=C/\C<D) (ztM F f1 s vi1 (B&&(E==10)) vb2))))):=letI A:=((((s.getD vi1.toNat 0).toNat:Int)==61)&&(decide ((vi1+1)<(s.length:Int))))=true;letI B:=(((s.getD vi1.toNat 0).toNat:Int)==61)=true;Eq.trans (by kernel_rfl) (zj rfl (zf (nI B (zf (nI B (nI B (nI B (nI B (nI A (zf (nI A (nI A (zf (nI A (nI A rfl)))))))))))))))
theorem zwE(F f1 s vi1 vb4):ztN F f1 s vi1 vb4=ze (zh (vi1+3)) (zbB F f1 s (vi1+3) vb4):=by kernel_rfl
theorem zwD(F f1 s vi1 vc5 vb2):letI C:=vi1+2;letI D:=(s.length:Int);letI A:=(((s.getD vi1.toNat 0).toNat:Int)==61)&&(decide (C<D));letI E:=vi1+1;letI B:=A&&(((s.getD E.toNat 0).toNat:Int)==13);ztM F f1 s vi1 vc5 vb2=cond vc5 (ze (zh C) (zbB F f1 s C vb2)) (ze (0<=vi1/\vi1<D) (ze ((((s.getD vi1.toNat 0).toNat:Int)==61)=true->zh C) (ze (A=true->zh E) (ze (A=true->0<=E/\E<D) (ze (B=true->zh C) (ze (B=true->0<=C/\C<D) (zmk F f1 s vi1 (B&&(((s.getD C.toNat 0).toNat:Int)==10)) vb2))))))):=letI A:=(((s.getD vi1.toNat 0).toNat:Int)==61)&&(decide ((vi1+2)<(s.length:Int)));letI B:=(A&&(((s.getD (vi1+1).toNat 0).toNat:Int)==13))=true;letI C:=(((s.getD vi1.toNat 0).toNat:Int)==61)=true;letI D:=A=true;Eq.trans (by kernel_rfl) (zj rfl (zf (nI C (zf (nI C (nI C (nI C (nI C (nI D (zf (nI D (nI D (zf (nI D (nI D (nI B (zf (nI B (nI B (zf (nI B (nI B rfl))))))))))))))))))))))
theorem zk1(F f1 s vi1 vc6 vb2):letI A:=((s.getD vi1.toNat 0).toNat:Int).toNat;zmk F f1 s vi1 vc6 vb2=cond vc6 (ze (zh (vi1+3)) (zbB F f1 s (vi1+3) vb2)) (ze (0<=vi1/\vi1<(s.length:Int)) (ze ((vb2.length+[UInt8.ofNat A].length)*1<=140737488355328) (ze (zh (vi1+1)) (zbB F f1 s (vi1+1) (vb2++[UInt8.ofNat A]))))):=by kernel_rfl
theorem zCx(F s):zvW F s=zbB F F s 0 []:=by kernel_rfl
theorem zGv(F s r):IsP 176 (zvW F s) [.p (.str s)] r:=zG zfA rfl ⟨zOx.any,trivial⟩
theorem zC7(F:Nat)(s:List UInt8)(hs:s.length<=1000000):∀ (f i:Nat) (b:List UInt8),s.length<f+i->i<=s.length->b.length<=i->
 zbB F f s (i:Int) b=some (.p (.str (b++zaD (s.drop i))),[]):=by
 intro f
 induction f with
 | zero=>intro i b h1 h2;omega
 | succ f ih=>
  intro i b h1 h2 h3
  rw[zwG]
  cases hd:s.drop i with
  | nil=>
   have:s.length<=i:=by have:=congrArg List.length hd;simp at this;omega
   rw[zcw,List.append_nil]
   exact zg (by simp;omega) rfl
  | cons c r=>
   obtain⟨e1,e2,e3⟩:=yg hd
   have t1:((i:Int)+1).toNat=i+1:=by omega
   have t2:((i:Int)+2).toNat=i+2:=by omega
   have ok:∀ n:Int,0<=n->n<=10000000->zh n:=fun n h h'=>zd5 (by omega) (by omega)
   have o1:=ok ((i:Int)+1) (by omega) (by omega)
   have o2:=ok ((i:Int)+2) (by omega) (by omega)
   have o3:=ok ((i:Int)+3) (by omega) (by omega)
   have next:∀ (k:Nat) (b':List UInt8),i+k<=s.length->1<=k->b'.length<=i+k->zbB F f s ((i:Int)+k) b'=some (.p (.str (b'++zaD (s.drop (i+k)))),[]):=fun k b' hk hk1 hb=>ih (i+k) b' (by omega) hk hb
   have n1:=next 1
   have n2:=next 2
   have n3:=next 3
   have hb0:(0:Int)<=(i:Int)/\(i:Int)<(s.length:Int):=⟨by omega,by omega⟩
   refine zi (by simp;omega) (zd hb0 (zd (fun _=>o2) (zd (fun _=>o1) (zd (fun h=>by simp at h;omega) (zd (fun _=>o2) (zd (fun h=>by simp at h;omega) ?_))))))
   have last:∀ v:Bool,v=false->zmk F f s (i:Int) v b=some (.p (.str (b++c::zaD r)),[]):=by
    intro v hv
    rw[zk1]
    simp only[Int.toNat_natCast,e1]
    refine zg hv (zd hb0 (zd (by simp;omega) (zd o1 ((n1 _ (by omega) (by omega) (by simp;omega)).trans ?_))))
    rw[e2];simp
   rw[zwF,zwD]
   simp only[Int.toNat_natCast,e1,t1,t2]
   by_cases hc:c=61
   .subst hc
    match r,e3,e2,last with
    | [],e3,e2,last=>
     simp only[List.length_nil]at e3
     rw[zAi]
     refine zg (by simp;omega) (zd hb0 (zd (fun _=>o1) (zd (fun _=>o1) (zd (fun h=>by simp at h;omega) (zg (by simp;omega) (zd hb0 (zd (fun _=>o2) (zd (fun _=>o1) (zd (fun h=>by simp at h;omega) (zd (fun _=>o2) (zd (fun h=>by simp at h;omega) ?_)))))))))))
     exact(last _ (by simp;omega)).trans (by rw[zcw])
    | [x],e3,e2,last=>
     simp only[List.length_cons,List.length_nil]at e3
     have x1:=(yg e2).1
     simp only[x1]
     rw[zAh]
     refine zg (by simp;omega) (zd hb0 (zd (fun _=>o1) (zd (fun _=>o1) (zd (fun h=>by omega) ?_))))
     by_cases hx:x=10
     .subst hx
      rw[if_pos rfl]
      refine zi (by simp;omega) (zd o2 ((n2 b (by omega) (by omega) (by omega)).trans ?_))
      rw[List.drop_of_length_le (by omega),zcw]
     .rw [if_neg hx]
      refine zg (Bool.eq_false_iff.2 fun h=>hx (by simp at h;exact zcP (d:=10) |>.1 h.2)) (zd hb0 (zd (fun _=>o2) (zd (fun _=>o1) (zd (fun h=>by simp at h;omega) (zd (fun _=>o2) (zd (fun h=>by simp at h;omega) ?_))))))
      exact last _ (by simp;omega)
    | x::y::t,e3,e2,last=>
     simp only[List.length_cons]at e3
     obtain⟨x1,x2,_⟩:=yg e2
     obtain⟨y1,y2,_⟩:=yg x2
     rw[show i+1+1=i+2 from rfl]at x2 y1
     rw[show i+1+1+1=i+3 from rfl]at y2
     simp only[x1,y1]
     have dx:=zhh (x.toNat)
     have dy:=zhh (y.toNat)
     rw[zAg]
     have hb1:(0:Int)<=(i:Int)+1/\(i:Int)+1<(s.length:Int):=⟨by omega,by omega⟩
     have hb2:(0:Int)<=(i:Int)+2/\(i:Int)+2<(s.length:Int):=⟨by omega,by omega⟩
     by_cases hh:isHex x/\isHex y
     .have h1:(0:Int)<=digitS x.toNat:=hh.1
      have h2':(0:Int)<=digitS y.toNat:=hh.2
      rw[if_pos hh,zwE]
      refine zi (by simpa using⟨⟨by omega,h1⟩,h2'⟩) (zd o1 (zd hb1 (zd (ok _ (by omega) (by omega)) (zd o2 (zd hb2 (zd (ok _ (by omega) (by omega)) (zd (by simp;omega) (zd o3 ?_))))))))
      refine(n3 _ (by omega) (by omega) (by simp;omega)).trans ?_
      rw[y2,zi5 (by omega) (by omega)]
      simp[zJK]
     .rw [if_neg hh]
      refine zg (Bool.eq_false_iff.2 fun h=>hh (by simp at h;exact⟨h.1.2,h.2⟩)) (zd hb0 (zd (fun _=>o1) (zd (fun _=>o1) (zd (fun _=>hb1) ?_))))
      by_cases hx:x=10
      .subst hx
       rw[if_pos rfl]
       refine zi (by simp;omega) (zd o2 ((n2 b (by omega) (by omega) (by omega)).trans ?_))
       rw[x2]
      .rw [if_neg hx]
       refine zg (Bool.eq_false_iff.2 fun h=>hx (by simp at h;exact zcP (d:=10) |>.1 h.2)) (zd hb0 (zd (fun _=>o2) (zd (fun _=>o1) (zd (fun _=>hb1) (zd (fun _=>o2) (zd (fun _=>hb2) ?_))))))
       by_cases hxy:x=13/\y=10
       .obtain ⟨rfl,rfl⟩:=hxy
        rw[if_pos ⟨rfl,rfl⟩,zk1]
        refine zi (by simp;omega) (zd o3 ((n3 b (by omega) (by omega) (by omega)).trans ?_))
        rw[y2]
       .rw [if_neg hxy]
        exact last _ (Bool.eq_false_iff.2 fun h=>hxy (by simp at h;exact⟨zcP (d:=13) |>.1 h.1.2,zcP (d:=10) |>.1 h.2⟩))
   .have hc':((c.toNat:Int)==61)=false:=by simpa using fun e=>hc (zcP (d:=61) |>.1 e)
    simp only[hc',Bool.false_and]
    have f0:∀ {p:Prop},(false=true->p):=fun h=>by cases h
    rw[zus hc]
    exact zg rfl (zd hb0 (zd f0 (zd f0 (zd f0 (zg rfl (zd hb0 (zd f0 (zd f0 (zd f0 (zd f0 (zd f0 (last _ rfl))))))))))))
theorem zGY(s:List UInt8)(hs:s.length<=1000000):zvW 1000001 s=some (.p (.str (zaD s)),[]):=by
 rw[zCx]
 exact zC7 1000001 s hs 1000001 0 [] (by omega) (by omega) (by simp)
def zsq:List AV->Option (AV×Option Prop):=zsr zaD
theorem zFN:zn Tryz.prog 176 zsq:=zje (by kernel_rfl) fun s hs=>zGv 1000001 s _ fun _=>zGY s hs
theorem zpf:∀ (n:Nat) (s:List UInt8),s.length<=n->(zaD s).length<=s.length:=by
 intro n
 induction n with
 | zero=>intro s h;have:s=[]:=List.eq_nil_of_length_eq_zero (by omega);subst this;simp[zcw]
 | succ n ih=>
  intro s h
  match s,h with
  | [],_=>simp[zcw]
  | c::r,h=>
   by_cases hc:c=61
   .subst hc
    match r,h with
    | [],_=>rw[zAi];simp
    | [x],h=>
     rw[zAh];split
     .simp
     .have:=ih [x] (by simp at h ⊢;omega)
      simp at this ⊢;omega
    | x::y::t,h=>
     simp at h
     rw[zAg]
     split
     .have:=ih t (by omega);simp;omega
     .split
      .have:=ih (y::t) (by simp;omega);simp at this ⊢;omega
      .split
       .have:=ih t (by omega);simp;omega
       .have:=ih (x::y::t) (by simp;omega);simp at this ⊢;omega
   .rw [zus hc]
    have:=ih r (by simp at h;omega)
    simp;omega
abbrev zjh:List UInt8:=[61,63]
abbrev zjg:List UInt8:=[63,61]
def zmt(s:List UInt8)(i:Nat):Option (Nat×Nat):=
 if zbD (s.drop i) zjh=false then none else
 if zcu s (i+2)=i+2\/s.length<zcu s (i+2)+3\/s.getD (zcu s (i+2)) 0≠63\/s.getD (zcu s (i+2)+2) 0≠63 then none else
 if zbD (s.drop (zcu s (zcu s (i+2)+3))) zjg=false then none else some (zcu s (i+2),zcu s (zcu s (i+2)+3))
def zh9(k:UInt8)(t:List UInt8):Option (List UInt8):=
 if k=66\/k=98 then some (zfj t) else if k=81\/k=113 then some (zaD (zb5 t 95 32)) else none
def zgg(s:List UInt8)(i:Int):List UInt8×Int×Bool:=
 match zmt s i.toNat with
 | none=>([],i,false)
 | some (a,b)=>match zh9 (s.getD (a+1) 0) ((s.take b).drop (a+3))with
  | none=>([],i,false)
  | some u=>((zct ((s.take a).drop (i.toNat+2)) u).1,((b+2:Nat):Int),(zct ((s.take a).drop (i.toNat+2)) u).2)
def zAn(p:List UInt8×Int×Bool):AV:=.tup [.p (.str p.1),.p (.int .i64 p.2.1),.p (.bool p.2.2)]
theorem u8n(c d:UInt8):((c.toNat:Int)==(d.toNat:Int))=(c==d):=by
 rw[Bool.eq_iff_iff];simp only[beq_iff_eq];exact zcP
theorem zNo(c d:UInt8):((c.toNat:Int) != (d.toNat:Int))=(c != d):=by simp only[bne,u8n]
theorem zpK{s p:List UInt8}(h:zbD s p=true):p.length<=s.length:=by
 unfold zbD at h
 rw[beq_iff_eq]at h
 have:=congrArg List.length h
 simp at this;omega
theorem znR(s:List UInt8)(c d:UInt8):(zb5 s c d).length=s.length:=by simp[zb5]
theorem znT(s:List UInt8)(a b:Nat):((s.take b).drop a).length<=s.length:=by simp;omega
def zG0:=mkG [(112,zId),(113,ztV),(114,zwN),(115,zo2),(116,zt9),(117,zt4)] [] 92 [] [([1,0,1,1,1,1],⟨[0,1,7,8,46],[]⟩),([1,0,1,0,1,1,1,1,1,1,1,1],⟨[0,1,7,8,9,10,66,68],[]⟩),([1,1,1,0,1,0,1,1,1,1,1,1,1,1],⟨[0,1,7,8,9,10,73],[]⟩),([1,1,1,1,1,1,1,1,1],⟨[0,7,8,9,10],[]⟩)] []
def zNi(F:Nat)(s:List UInt8)(i vi1 vi2:Int)(vc3:Bool):=zx zG0 Tryz.f79 F [] [1,1,1,1,0,1] [(0,pS s),(1,pI i),(7,pI vi1),(8,pI vi2),(46,pB vc3)] []
def zwz(F:Nat)(s:List UInt8)(i vi1 vi2 vi4:Int)(vs5:List UInt8)(vi6:Int)(vc7:Bool):=zx zG0 Tryz.f79 F [] [1,1,1,1,1,1,1,1,0,1,0,1] [(0,pS s),(1,pI i),(7,pI vi1),(8,pI vi2),(9,pI vi4),(10,pS vs5),(66,.p (.int .u8 vi6)),(68,pB vc7)] []
def zwy(F:Nat)(s:List UInt8)(vi1 vi2 vi4:Int)(vs8:List UInt8):=zx zG0 Tryz.f79 F [] [1,1,1,1,1,1,1,1,1] [(0,pS s),(7,pI vi1),(8,pI vi2),(9,pI vi4),(10,pS vs8)] []
def zwx(F:Nat)(s:List UInt8)(i vi1 vi2 vi4:Int)(vs5:List UInt8)(vc9:Bool):=zx zG0 Tryz.f79 F [] [1,1,1,1,1,1,1,1,0,1,0,1,1,1] [(0,pS s),(1,pI i),(7,pI vi1),(8,pI vi2),(9,pI vi4),(10,pS vs5),(73,pB vc9)] []
def zS4(F:Nat)(s:List UInt8)(i:Int):=zF zG0 Tryz.f79 F [pS s,pI i]
theorem zHQ(F s i vi1 vi2 vc3):letI C:=vi2+3;letI B:=zdq s C;letI D:=(s.length:Int);letI E:=(s.take B.toNat).drop C.toNat;letI H:=([]:List UInt8);letI I:=vi2+1;letI A:=((s.getD I.toNat 0).toNat:Int);zNi F s i vi1 vi2 vc3=cond vc3 (some (.tup [.p (.str H),.p (.int .i64 i),.p (.bool false)],[])) (ze (zh C) (ze (zaO s C) (ze (0<=B/\B<=D) (cond (!(zbD (s.drop B.toNat) ([63,61]:List UInt8))) (some (.tup [.p (.str H),.p (.int .i64 i),.p (.bool false)],[])) (ze (zh C) (ze (0<=C/\C<=B/\B<=D) (ze (zh I) (ze (0<=I/\I<D) (cond (A==66) (zwz F s i vi1 vi2 B E A (A==66)) (zwz F s i vi1 vi2 B E A (A==98))))))))))):=by kernel_rfl
theorem zHP(F s i vi1 vi2 vi4 vs5 vi6 vc7):zwz F s i vi1 vi2 vi4 vs5 vi6 vc7=cond vc7 (ze (vs5.length<=1000000) (zwy F s vi1 vi2 vi4 (zfj vs5))) (cond (vi6==81) (zwx F s i vi1 vi2 vi4 vs5 (vi6==81)) (zwx F s i vi1 vi2 vi4 vs5 (vi6==113))):=by kernel_rfl
theorem zHO(F s vi1 vi2 vi4 vs8):letI A:=(s.take vi2.toNat).drop vi1.toNat;zwy F s vi1 vi2 vi4 vs8=ze (0<=vi1/\vi1<=vi2/\vi2<=(s.length:Int)) (ze (A.length<=1000000/\vs8.length<=1000000) (ze (zh (vi4+2)) (some (.tup [.p (.str (zct A vs8).1),.p (.int .i64 (vi4+2)),.p (.bool (zct A vs8).2)],[])))):=by kernel_rfl
theorem zHN(F s i vi1 vi2 vi4 vs5 vc9):letI A:=zb5 vs5 95 32;zwx F s i vi1 vi2 vi4 vs5 vc9=cond vc9 (ze (vs5.length<=1000000) (ze (A.length<=1000000) (zwy F s vi1 vi2 vi4 (zaD A)))) (some (.tup [.p (.str ([]:List UInt8)),.p (.int .i64 i),.p (.bool false)],[])):=by kernel_rfl
theorem zQe(F s i):letI C:=(s.length:Int);letI D:=i+2;letI B:=zdq s D;letI A:=((B==D)||(decide ((C-B)<3)))||(((s.getD B.toNat 0).toNat:Int) != 63);letI E:=B+2;zS4 F s i=ze (0<=i/\i<=C) (cond (!(zbD (s.drop i.toNat) ([61,63]:List UInt8))) (some (.tup [.p (.str ([]:List UInt8)),.p (.int .i64 i),.p (.bool false)],[])) (ze (zh D) (ze (zaO s D) (ze ((!(B==D))=true->zh (C-B)) (ze ((!((B==D)||(decide ((C-B)<3))))=true->0<=B/\B<C) (ze ((!A)=true->zh E) (ze ((!A)=true->0<=E/\E<C) (zNi F s i D B (A||(((s.getD E.toNat 0).toNat:Int) != 63)))))))))):=letI A:=((zdq s (i+2))==(i+2))||(decide (((s.length:Int)-(zdq s (i+2)))<3));letI B:=A||(((s.getD (zdq s (i+2)).toNat 0).toNat:Int) != 63);letI C:=(!((zdq s (i+2))==(i+2)))=true;letI D:=(!B)=true;letI E:=(!A)=true;Eq.trans (by kernel_rfl) (zf (zj rfl (zf (zf (nI C (nI C (nI C (zf (nI C (nN ((zdq s (i+2))==(i+2)) (nI E (nI E (zf (nI E (nN A (nI D (zf (nI D (nI D (zf (nI D (nN B rfl))))))))))))))))))))))
theorem zSp(F s i r):IsP 79 (zS4 F s i) [.p (.str s),.p (.int .i64 i)] r:=zG zG0 rfl ⟨zTA.any,zN8.any,zJl.any,zAz.any,zOm.any,zOh.any,trivial⟩
theorem zRJ(s:List UInt8)(i:Int)(h:zaO s i):zS4 0 s i=some (zAn (zgg s i),[]):=by
 obtain⟨h0,h1,h2⟩:=h
 obtain⟨i,rfl⟩:=Int.eq_ofNat_of_zero_le h0
 have hi:i<=s.length:=by omega
 rw[zQe]
 refine zy ?_
 rw[zgg,zmt]
 rw[show((i:Int)).toNat=i from rfl]
 by_cases c1:zbD (s.drop i) zjh=false
 .refine zi (by rw[c1];rfl) ?_
  rw[if_pos c1];rfl
 .have c1':zbD (s.drop i) zjh=true:=by simpa using c1
  refine zg (by rw[c1'];rfl) ?_
  rw[if_neg c1]
  have hlen:i+2<=s.length:=by have:=zpK c1';simp at this;omega
  refine zy ?_
  have e2:(i:Int)+2=((i+2:Nat):Int):=by omega
  rw[e2]
  refine zd ⟨by omega,by omega,h2⟩ ?_
  have hr:=zg3 (s:=s) (i:=i+2) hlen
  rw[show zdq s ((i+2:Nat):Int)=(zcu s (i+2):Int) from rfl]
  generalize zcu s (i+2)=a at hr ⊢
  rw[show((a:Int)).toNat=a from rfl]
  refine zd (fun _=>by unfold zh;omega) ?_
  have ea2:((a:Int)+2).toNat=a+2:=by omega
  rw[ea2]
  refine zd (fun h=>by simp at h;omega) (zd (fun h=>by unfold zh;omega) (zd (fun h=>by simp at h;omega) ?_))
  have hB:((((a:Int)==((i+2:Nat):Int))||(decide ((s.length:Int)-(a:Int)<(3:Int))))||(((s.getD a 0).toNat:Int) != (63:Int))||(((s.getD (a+2) 0).toNat:Int) != (63:Int)))=
   decide (a=i+2\/s.length<a+3\/s.getD a 0≠63\/s.getD (a+2) 0≠63):=by
   rw[show(63:Int)=((63:UInt8).toNat:Int) from rfl,zNo,zNo,Bool.eq_iff_iff]
   simp only[Bool.or_eq_true,decide_eq_true_eq,beq_iff_eq,bne_iff_ne]
   constructor
   .rintro (((h|h)|h)|h)
    .exact .inl (by omega)
    .exact .inr (.inl (by omega))
    .exact .inr (.inr (.inl h))
    .exact .inr (.inr (.inr h))
   .rintro (h|h|h|h)
    .exact .inl (.inl (.inl (by omega)))
    .exact .inl (.inl (.inr (by omega)))
    .exact .inl (.inr h)
    .exact .inr h
  rw[hB,zHQ]
  by_cases c2:a=i+2\/s.length<a+3\/s.getD a 0≠63\/s.getD (a+2) 0≠63
  .refine zi (decide_eq_true c2) ?_
   rw[if_pos c2];rfl
  .refine zg (decide_eq_false c2) ?_
   rw[if_neg c2]
   have ha3:a+3<=s.length:=by
    rcases Nat.lt_or_ge s.length (a+3)with h|h
    .exact absurd (.inr (.inl h)) c2
    .exact h
   have e3:(a:Int)+3=((a+3:Nat):Int):=by omega
   have e1:((a:Int)+1).toNat=a+1:=by omega
   refine zy ?_
   rw[e3,e1]
   refine zd ⟨by omega,by omega,h2⟩ ?_
   have hb:=zg3 (s:=s) (i:=a+3) ha3
   rw[show zdq s ((a+3:Nat):Int)=(zcu s (a+3):Int) from rfl]
   generalize zcu s (a+3)=b at hb ⊢
   rw[show((b:Int)).toNat=b from rfl,show(((a+3:Nat):Int)).toNat=a+3 from rfl]
   refine zy ?_
   by_cases c3:zbD (s.drop b) zjg=false
   .refine zi (by rw[c3];rfl) ?_
    rw[if_pos c3];rfl
   .have c3':zbD (s.drop b) zjg=true:=by simpa using c3
    refine zg (by rw[c3'];rfl) ?_
    rw[if_neg c3]
    have hb2:b+2<=s.length:=by have:=zpK c3';simp at this;omega
    refine zy ?_
    refine zy ?_
    refine zy ?_
    refine zy ?_
    dsimp only
    have htl:=znT s (a+3) b
    generalize s.getD (a+1) 0=k
    generalize (s.take b).drop (a+3)=t at htl ⊢
    have fin:∀ u:List UInt8,u.length<=1000000->zwy 0 s ((i+2:Nat):Int) (a:Int) (b:Int) u=
     some (zAn ((zct ((s.take a).drop (i+2)) u).1,((b+2:Nat):Int),(zct ((s.take a).drop (i+2)) u).2),[]):=fun u hu=>by
     have hm:=znT s (i+2) a
     rw[zHO,show(((i+2:Nat):Int)).toNat=i+2 from rfl,show((a:Int)).toNat=a from rfl]
     refine zd (by omega) (zd ⟨by omega,hu⟩ (zd (by unfold zh;omega) ?_))
     rfl
    have hl:=zfi t 0 0
    have hq:=zpf _ (zb5 t 95 32) (Nat.le_refl _)
    rw[znR]at hq
    have two:∀ B,B=decide (k=66\/k=98)->zwz 0 s (i:Int) ((i+2:Nat):Int) (a:Int) (b:Int) t (k.toNat:Int) B=some (zAn (match zh9 k t with
     | none=>([],(i:Int),false)
     | some u=>((zct ((s.take a).drop (i+2)) u).1,((b+2:Nat):Int),(zct ((s.take a).drop (i+2)) u).2)),[]):=by
     intro B hB
     rw[hB,zHP,zh9]
     by_cases k1:k=66\/k=98
     .refine zi (decide_eq_true k1) (zd (by omega) ?_)
      rw[if_pos k1]
      exact fin _ (by unfold zfj;omega)
     .refine zg (decide_eq_false k1) ?_
      rw[if_neg k1]
      have four:∀ B,B=decide (k=81\/k=113)->zwx 0 s (i:Int) ((i+2:Nat):Int) (a:Int) (b:Int) t B=some (zAn (match (if k=81\/k=113 then some (zaD (zb5 t 95 32)) else none)with
       | none=>([],(i:Int),false)
       | some u=>((zct ((s.take a).drop (i+2)) u).1,((b+2:Nat):Int),(zct ((s.take a).drop (i+2)) u).2)),[]):=by
       intro B hB
       rw[hB,zHN]
       by_cases k2:k=81\/k=113
       .refine zi (decide_eq_true k2) (zd (by omega) (zd (by rw[znR];omega) ?_))
        rw[if_pos k2]
        exact fin _ (by omega)
       .refine zg (decide_eq_false k2) ?_
        rw[if_neg k2];rfl
      rw[show(81:Int)=((81:UInt8).toNat:Int) from rfl,show(113:Int)=((113:UInt8).toNat:Int) from rfl,u8n,u8n]
      by_cases k3:k=81
      .refine zi (by simpa using k3) (four _ (by simp[k3]))
      .refine zg (by simpa using k3) (four _ (by rw[Bool.eq_iff_iff];simp[k3]))
    rw[show(66:Int)=((66:UInt8).toNat:Int) from rfl,show(98:Int)=((98:UInt8).toNat:Int) from rfl,u8n,u8n]
    by_cases k3:k=66
    .refine zi (by simpa using k3) (two _ (by simp[k3]))
    .refine zg (by simpa using k3) (two _ (by rw[Bool.eq_iff_iff];simp[k3]))
def zzU:List AV->Option (AV×Option Prop)
 | [.p (.str s),.p (.int .i64 i)]=>some (.tup [.p (.str ((zgg s i).1)),.p (.int .i64 ((zgg s i).2.1)),.p (.bool ((zgg s i).2.2))],some (zaO s i))
 | _=>none
theorem ok_one:zn Tryz.prog 79 zzU:=by
 intro zs r ok he hok
 unfold zzU at he
 split at he
 .cases he;exact⟨by kernel_rfl,zSp 0 _ _ _ fun hx=>zRJ _ _ hok⟩
 .cases he
def zpl(s:List UInt8)(i:Int):List UInt8×Int×Bool:=
 match zmt s i.toNat with
 | none=>([],0,false)
 | some (a,b)=>match zh9 (s.getD (a+1) 0) ((s.take b).drop (a+3))with
  | none=>([],0,false)
  | some u=>if zL ((s.take a).drop (i.toNat+2))=zfU\/zL ((s.take a).drop (i.toNat+2))=zdF then(u,((b+2:Nat):Int),zaS u)
   else if zL ((s.take a).drop (i.toNat+2))=zx1 then(zac u,((b+2:Nat):Int),true) else([],0,false)
theorem zRZ(k:UInt8):(zeI k=98↔k=66\/k=98)/\(zeI k=113↔k=81\/k=113):=by
 have:∀ x:Fin 256,(zeI (UInt8.ofNat x.val)=98↔UInt8.ofNat x.val=66\/UInt8.ofNat x.val=98)/\(zeI (UInt8.ofNat x.val)=113↔UInt8.ofNat x.val=81\/UInt8.ofNat x.val=113):=by decide+kernel
 have h:=this ⟨k.toNat,k.toNat_lt⟩
 simpa using h
theorem zxw{s:List UInt8}{i:Nat}{p:List UInt8}(h:i+p.length<=s.length):((s.take (i+p.length)).drop i==p)=zbD (s.drop i) p:=by
 rw[zjB];rfl
theorem zpJ{s p:List UInt8}(h:s.length<p.length):zbD s p=false:=by
 cases hq:zbD s p with
 | false=>rfl
 | true=>have:=zpK hq;omega
def zet:=mkG [(25,zcq),(152,zgW),(153,zgX),(174,zoH),(175,zsp),(176,zsq)] [] 134 [] [([1,0,1],⟨[0,1,25],[]⟩),([1,0,1,1,1],⟨[0,1,7,53],[]⟩),([1,0,1,1,1,1,1,1],⟨[0,1,7,8,9,85],[]⟩),([0,1,0,1,1,1,0,1,1,1,1,1,1,1,1],⟨[0,1,7,9,11,12],[⟨.slot 11,11,.cells []⟩]⟩),([1,1,0,0,1,0,1,1,1,0,1,1,1,1,1,1,1,1],⟨[0,1,7,9,11,12],[⟨.slot 11,11,.cells []⟩]⟩),([1,1,1,1,1,1,1,1,1],⟨[0,1,7,9,10],[]⟩),([1,0,0,1,0,1,1,1,1,1,1,1,1,1],⟨[9,10,119,120],[]⟩),([1,0,1,0,1,1,1,1,1,1,1,1,1],⟨[9,10,119,120],[]⟩)] [([0,1,1,0,1,1,1,1,1,1,1,1],[1])]
def zy8(F:Nat)(s:List UInt8)(i:Int)(vc1:Bool):=zx zet Tryz.f154 F [] [1,0,1] [(0,pS s),(1,pI i),(25,pB vc1)] []
def zy6(F:Nat)(s:List UInt8)(i vi2:Int)(vc3:Bool):=zx zet Tryz.f154 F [] [1,1,1,0,1] [(0,pS s),(1,pI i),(7,pI vi2),(53,pB vc3)] []
def zy4(F:Nat)(s:List UInt8)(i vi2:Int)(vs4:List UInt8)(vi5:Int)(vc6:Bool):=zx zet Tryz.f154 F [] [1,1,1,1,1,1,0,1] [(0,pS s),(1,pI i),(7,pI vi2),(8,pS vs4),(9,pI vi5),(85,pB vc6)] []
def zgG(F:Nat)(s:List UInt8)(i vi2 vi5:Int)(vs7:List UInt8):=zx zet Tryz.f154 F [] [1,1,1,1,1,1,1,1,1] [(0,pS s),(1,pI i),(7,pI vi2),(9,pI vi5),(10,pS vs7)] []
def zy1(F:Nat)(vi5:Int)(vs7 vs8:List UInt8)(vc9:Bool):=zx zet Tryz.f154 F [] [1,1,1,1,1,1,1,1,1,0,1,0,0,1] [(9,pI vi5),(10,pS vs7),(119,pS vs8),(120,pB vc9)] []
def zkI(F:Nat)(vi5:Int)(vs7 vs8:List UInt8)(vc10:Bool):=zx zet Tryz.f154 F [] [1,1,1,1,1,1,1,1,1,0,1,0,1] [(9,pI vi5),(10,pS vs7),(119,pS vs8),(120,pB vc10)] []
def zkH(F f1:Nat)(s:List UInt8)(i vi2 vi5 vi11:Int)(vb12:List UInt8):=zH zet Tryz.f154 F [] [1,1,1,1,1,1,1,1,0,1,1,1,0,1,0] f1 [(0,pS s),(1,pI i),(7,pI vi2),(9,pI vi5),(11,.arr 11),(12,pI vi11)] [(11,.bcv 5 vb12)]
def zq0(F f1:Nat)(s:List UInt8)(i vi2 vi5 vi11:Int)(vb13:List UInt8):=zx zet Tryz.f154 F [f1] [1,1,1,1,1,1,1,1,0,1,1,1,0,1,0,0,1,1] [(0,pS s),(1,pI i),(7,pI vi2),(9,pI vi5),(11,.arr 11),(12,pI vi11)] [(11,.bcv 5 vb13)]
def zB2(F:Nat)(s:List UInt8)(i:Int):=zF zet Tryz.f154 F [pS s,pI i]
theorem zy7(F s i vc1):letI C:=(s.length:Int);letI D:=i+2;letI B:=zdq s D;letI A:=((B==D)||(decide ((B+3)>C)))||(((s.getD B.toNat 0).toNat:Int) != 63);letI E:=B+2;zy8 F s i vc1=cond vc1 (some (.tup [.p (.str ([]:List UInt8)),.p (.int .i64 0),.p (.bool false)],[])) (ze (zh D) (ze (zaO s D) (ze (zh D) (ze ((!(B==D))=true->zh (B+3)) (ze ((!((B==D)||(decide ((B+3)>C))))=true->0<=B/\B<C) (ze ((!A)=true->zh E) (ze ((!A)=true->0<=E/\E<C) (zy6 F s i B (A||(((s.getD E.toNat 0).toNat:Int) != 63)))))))))):=letI A:=((zdq s (i+2))==(i+2))||(decide (((zdq s (i+2))+3)>(s.length:Int)));letI B:=A||(((s.getD (zdq s (i+2)).toNat 0).toNat:Int) != 63);letI C:=(!((zdq s (i+2))==(i+2)))=true;letI D:=(!B)=true;letI E:=(!A)=true;Eq.trans (by kernel_rfl) (zj rfl (zf (zf (zf (nI C (zf (nI C (nI C (nI C (nN ((zdq s (i+2))==(i+2)) (nI E (nI E (zf (nI E (nN A (nI D (zf (nI D (nI D (zf (nI D (nN B rfl))))))))))))))))))))))
theorem zy5(F s i vi2 vc3):letI B:=zdq s (vi2+3);letI E:=B+2;letI H:=vi2+1;letI I:=vi2+2;letI D:=(s.take I.toNat).drop H.toNat;letI A:=((zL D) != ([98]:List UInt8))&&((zL D) != ([113]:List UInt8));letI J:=(s.length:Int);letI C:=A||(decide (E>J));zy6 F s i vi2 vc3=cond vc3 (some (.tup [.p (.str ([]:List UInt8)),.p (.int .i64 0),.p (.bool false)],[])) (ze (zh H) (ze (zh I) (ze (0<=H/\H<=I/\I<=J) (ze (D.length<=140737488355328) (ze (zh (vi2+3)) (ze (zaO s (vi2+3)) (ze ((!A)=true->zh E) (ze ((!C)=true->zh E) (ze ((!C)=true->0<=B/\B<=E/\E<=J) (zy4 F s i vi2 (zL D) B (C||(((s.take E.toNat).drop B.toNat) != ([63,61]:List UInt8))))))))))))):=letI A:=((zL ((s.take (vi2+2).toNat).drop (vi2+1).toNat)) != ([98]:List UInt8))&&((zL ((s.take (vi2+2).toNat).drop (vi2+1).toNat)) != ([113]:List UInt8));letI B:=A||(decide (((zdq s (vi2+3))+2)>(s.length:Int)));letI C:=((zL ((s.take (vi2+2).toNat).drop (vi2+1).toNat)) != ([98]:List UInt8))=true;letI D:=(!B)=true;letI E:=(!A)=true;Eq.trans (by kernel_rfl) (zj rfl (zf (zf (zf (zf (zf (zf (nI C (nI C (nI E (zf (nI E (nI E (nI E (nN A (nI D (zf (nI D (nI D (nI D (zf (nI D (nN B rfl)))))))))))))))))))))))
theorem zy3(F s i vi2 vs4 vi5 vc6):letI B:=vi2+3;letI A:=(s.take vi5.toNat).drop B.toNat;zy4 F s i vi2 vs4 vi5 vc6=cond vc6 (some (.tup [.p (.str ([]:List UInt8)),.p (.int .i64 0),.p (.bool false)],[])) (ze (zh B) (ze (0<=B/\B<=vi5/\vi5<=(s.length:Int)) (cond (vs4==([98]:List UInt8)) (ze (A.length<=1000000) (zgG F s i vi2 vi5 (zfj A))) (zkH F F s i vi2 vi5 0 A)))):=by kernel_rfl
theorem zy2(F s i vi2 vi5 vs7):letI A:=(s.take vi2.toNat).drop (i+2).toNat;zgG F s i vi2 vi5 vs7=ze (zh (i+2)) (ze (0<=(i+2)/\(i+2)<=vi2/\vi2<=(s.length:Int)) (ze (A.length<=140737488355328) (zy1 F vi5 vs7 (zL A) ((zL A)==([117,116,102,45,56]:List UInt8))))):=by kernel_rfl
theorem zy0(F vi5 vs7 vs8 vc9):zy1 F vi5 vs7 vs8 vc9=cond vc9 (zkI F vi5 vs7 vs8 vc9) (zkI F vi5 vs7 vs8 (vs8==([117,115,45,97,115,99,105,105]:List UInt8))):=by kernel_rfl
theorem zyZ(F vi5 vs7 vs8 vc10):letI A:=vi5+2;letI B:=vs7.length<=1000000;zkI F vi5 vs7 vs8 vc10=cond vc10 (ze (zh A) (ze B (some (.tup [.p (.str vs7),.p (.int .i64 A),.p (.bool (zaS vs7))],[])))) (cond (vs8==([105,115,111,45,56,56,53,57,45,49]:List UInt8)) (ze B (ze (zh A) (some (.tup [.p (.str (zac vs7)),.p (.int .i64 A),.p (.bool true)],[])))) (some (.tup [.p (.str ([]:List UInt8)),.p (.int .i64 0),.p (.bool false)],[]))):=by kernel_rfl
theorem zm9(F f1 s i vi2 vi5 vi11 vb12):letI A:=0<=vi11/\vi11<(vb12.length:Int);letI B:=vi11.toNat<vb12.length;zkH F (f1+1) s i vi2 vi5 vi11 vb12=cond (decide (vi11<(vb12.length:Int))) (ze A (ze B (cond (((vb12.getD vi11.toNat 0).toNat:Int)==95) (ze A (ze B (zq0 F f1 s i vi2 vi5 vi11 (vb12.set vi11.toNat (UInt8.ofNat (32:Int).toNat))))) (zq0 F f1 s i vi2 vi5 vi11 vb12)))) (ze (vb12.length<=1000000) (zgG F s i vi2 vi5 (zaD vb12))):=by kernel_rfl
theorem zm8(F f1 s i vi2 vi5 vi11 vb13):zq0 F f1 s i vi2 vi5 vi11 vb13=ze (zh (vi11+1)) (zkH F f1 s i vi2 vi5 (vi11+1) vb13):=by kernel_rfl
theorem zHc(F s i):letI A:=decide ((i+1)>=(s.length:Int));letI B:=i+2;zB2 F s i=ze (zh (i+1)) (ze ((!A)=true->zh B) (ze ((!A)=true->0<=i/\i<=B/\B<=(s.length:Int)) (zy8 F s i (A||(((s.take B.toNat).drop i.toNat) != ([61,63]:List UInt8)))))):=letI A:=(!(decide ((i+1)>=(s.length:Int))))=true;Eq.trans (by kernel_rfl) (zf (nI A (zf (nI A (nI A (nI A (zf (nI A (nN (decide ((i+1)>=(s.length:Int))) rfl)))))))))
theorem zJ4(F s i r):IsP 154 (zB2 F s i) [.p (.str s),.p (.int .i64 i)] r:=zG zet rfl ⟨zeG.any,zsJ.any,zsL.any,zIW.any,zFw.any,zFN.any,trivial⟩
theorem zNh(F:Nat)(s:List UInt8)(i a b:Int):∀ (r:List UInt8) (f k:Nat) (t:List UInt8),t.drop k=r->r.length<f->k<=t.length->t.length<=1000000->
 zkH F f s i a b (k:Int) t=zgG F s i a b (zaD (t.take k++zb5 r 95 32)):=by
 intro r
 induction r with
 | nil=>
  intro f k t hd hf hk ht
  have:k=t.length:=by have:=congrArg List.length hd;simp at this;omega
  cases f with
  | zero=>omega
  | succ f=>
   rw[zm9]
   rw[show decide ((k:Int)<(t.length:Int))=false by simp;omega]
   rw[cond_false,yZ ht,this]
   simp[zb5]
 | cons c r ih=>
  intro f k t hd hf hk ht
  obtain⟨h1,h2,h3⟩:=yg hd
  cases f with
  | zero=>omega
  | succ f=>
   rw[zm9]
   rw[show decide ((k:Int)<(t.length:Int))=true by simp;omega]
   have e:(k:Int)+1=((k+1:Nat):Int):=by omega
   rw[cond_true,yZ (by omega),yZ (by omega),show((k:Int)).toNat=k from rfl,h1,show(95:Int)=((95:UInt8).toNat:Int) from rfl,u8n]
   have hg:t[k]?=some c:=by
    have:(t.drop k)[0]?=some c:=by rw[hd];rfl
    simpa using this
   by_cases hc:c=95
   .rw [show(c==95)=true by simpa using hc,cond_true,yZ (by omega),yZ (by omega),zm8,yZ (by unfold zh;omega),e]
    rw[ih f (k+1) (t.set k (UInt8.ofNat ((32:Int)).toNat)) (by rw[List.drop_set_of_lt (by omega)];exact h2) (by simp at hf;omega) (by simp;omega) (by simpa using ht)]
    congr 2
    rw[List.take_set,List.take_add_one,hg]
    have hlen:(t.take k).length=k:=by simp;omega
    rw[Option.toList_some,List.set_append_right _ _ (by omega),hlen]
    simp[zb5,hc]
   .rw [show(c==95)=false by simpa using hc,cond_false,zm8,yZ (by unfold zh;omega),e]
    rw[ih f (k+1) t h2 (by simp at hf;omega) (by omega) ht]
    rw[List.take_add_one,hg]
    simp[zb5,hc]
theorem zIA(s:List UInt8)(i:Int)(h:zaO s i):zB2 (s.length+1) s i=some (zAn (zpl s i),[]):=by
 obtain⟨h0,h1,h2⟩:=h
 obtain⟨i,rfl⟩:=Int.eq_ofNat_of_zero_le h0
 have hi:i<=s.length:=by omega
 rw[zHc,zpl,zmt,show((i:Int)).toNat=i from rfl]
 have e2:(i:Int)+2=((i+2:Nat):Int):=by omega
 refine zy ?_
 refine zd (fun _=>by unfold zh;omega) (zd (fun h=>by simp at h;omega) ?_)
 have hB1:((decide ((i:Int)+(1:Int)>=(s.length:Int)))||((s.take ((i:Int)+(2:Int)).toNat).drop i != ([61,63]:List UInt8)))=!(zbD (s.drop i) zjh):=by
  rw[e2,show(((i+2:Nat):Int)).toNat=i+2 from rfl]
  by_cases hs2:i+2<=s.length
  .rw [show decide ((i:Int)+(1:Int)>=(s.length:Int))=false by simp;omega,Bool.false_or,<-zxw (p:=zjh) hs2];rfl
  .rw [show decide ((i:Int)+(1:Int)>=(s.length:Int))=true by simp;omega,zpJ (by simp;omega)];rfl
 rw[hB1,zy7]
 by_cases c1:zbD (s.drop i) zjh=false
 .refine zi (by rw[c1];rfl) ?_
  rw[if_pos c1];rfl
 .have c1':zbD (s.drop i) zjh=true:=by simpa using c1
  refine zg (by rw[c1'];rfl) ?_
  rw[if_neg c1]
  have hlen:i+2<=s.length:=by have:=zpK c1';simp at this;omega
  refine zy ?_
  rw[e2]
  refine zd ⟨by omega,by omega,h2⟩ ?_
  have hr:=zg3 (s:=s) (i:=i+2) hlen
  rw[show zdq s ((i+2:Nat):Int)=(zcu s (i+2):Int) from rfl]
  generalize zcu s (i+2)=a at hr ⊢
  rw[show((a:Int)).toNat=a from rfl]
  have ea2:((a:Int)+2).toNat=a+2:=by omega
  rw[ea2]
  refine zy ?_
  refine zd (fun _=>by unfold zh;omega) (zd (fun h=>by simp at h;omega) (zd (fun h=>by unfold zh;omega) (zd (fun h=>by simp at h;omega) ?_)))
  have hB:((((a:Int)==((i+2:Nat):Int))||(decide ((a:Int)+(3:Int)>(s.length:Int))))||(((s.getD a 0).toNat:Int) != (63:Int))||(((s.getD (a+2) 0).toNat:Int) != (63:Int)))=
   decide (a=i+2\/s.length<a+3\/s.getD a 0≠63\/s.getD (a+2) 0≠63):=by
   rw[show(63:Int)=((63:UInt8).toNat:Int) from rfl,zNo,zNo,Bool.eq_iff_iff]
   simp only[Bool.or_eq_true,decide_eq_true_eq,beq_iff_eq,bne_iff_ne]
   constructor
   .rintro (((h|h)|h)|h)
    .exact .inl (by omega)
    .exact .inr (.inl (by omega))
    .exact .inr (.inr (.inl h))
    .exact .inr (.inr (.inr h))
   .rintro (h|h|h|h)
    .exact .inl (.inl (.inl (by omega)))
    .exact .inl (.inl (.inr (by omega)))
    .exact .inl (.inr h)
    .exact .inr h
  rw[hB,zy5]
  by_cases c2:a=i+2\/s.length<a+3\/s.getD a 0≠63\/s.getD (a+2) 0≠63
  .refine zi (decide_eq_true c2) ?_
   rw[if_pos c2];rfl
  .refine zg (decide_eq_false c2) ?_
   rw[if_neg c2]
   have ha3:a+3<=s.length:=by
    rcases Nat.lt_or_ge s.length (a+3)with h|h
    .exact absurd (.inr (.inl h)) c2
    .exact h
   have e3:(a:Int)+3=((a+3:Nat):Int):=by omega
   have e1:((a:Int)+1).toNat=a+1:=by omega
   rw[e3,e1,ea2]
   have hk1:(s.take (a+2)).drop (a+1)=[s.getD (a+1) 0]:=by
    rw[show a+2=(a+1)+1 from rfl,zjB,zeA (m:=0) (by omega)];rfl
   rw[hk1]
   refine zy ?_
   refine zy ?_
   refine zy ?_
   refine zd (by simp) ?_
   refine zy ?_
   refine zd ⟨by omega,by omega,h2⟩ ?_
   have hb:=zg3 (s:=s) (i:=a+3) ha3
   rw[show zdq s ((a+3:Nat):Int)=(zcu s (a+3):Int) from rfl]
   generalize zcu s (a+3)=b at hb ⊢
   have eb2:((b:Int)+2).toNat=b+2:=by omega
   rw[show((b:Int)).toNat=b from rfl,eb2]
   refine zd (fun _=>by unfold zh;omega) (zd (fun _=>by unfold zh;omega) (zd (fun h=>by simp at h;omega) ?_))
   have hkf:zL [s.getD (a+1) 0]=[zeI (s.getD (a+1) 0)]:=rfl
   rw[hkf]
   have hlk:=zRZ (s.getD (a+1) 0)
   obtain⟨k,hkd⟩:∃ k,s.getD (a+1) 0=k:=⟨_,rfl⟩
   rw[hkd]at hlk ⊢
   have hk98:([zeI k]==([98]:List UInt8))=decide (k=66\/k=98):=by
    rw[Bool.eq_iff_iff,decide_eq_true_eq,beq_iff_eq,<-hlk.1];simp
   have hk113:([zeI k]==([113]:List UInt8))=decide (k=81\/k=113):=by
    rw[Bool.eq_iff_iff,decide_eq_true_eq,beq_iff_eq,<-hlk.2];simp
   have hB3:((((([zeI k] != ([98]:List UInt8))&&([zeI k] != ([113]:List UInt8)))||(decide ((b:Int)+(2:Int)>(s.length:Int))))||((s.take (b+2)).drop b != ([63,61]:List UInt8))))=
    decide (¬ ((k=66\/k=98)\/(k=81\/k=113))\/zbD (s.drop b) zjg=false):=by
    simp only[bne,hk98,hk113]
    by_cases hs2:b+2<=s.length
    .rw [show decide ((b:Int)+(2:Int)>(s.length:Int))=false by simp;omega,Bool.or_false,show((s.take (b+2)).drop b==([63,61]:List UInt8))=zbD (s.drop b) zjg from zxw (p:=zjg) hs2,Bool.eq_iff_iff]
     simp only[Bool.or_eq_true,Bool.and_eq_true,Bool.not_eq_true',decide_eq_true_eq,decide_eq_false_iff_not,not_or]
    .rw [show decide ((b:Int)+(2:Int)>(s.length:Int))=true by simp;omega,Bool.or_true,Bool.true_or,zpJ (s:=s.drop b) (by simp;omega)]
     simp
   rw[hB3,zy3]
   by_cases c3:zbD (s.drop b) zjg=false
   .refine zi (decide_eq_true (.inr c3)) ?_
    rw[if_pos c3];rfl
   .rw [if_neg c3]
    have c3':zbD (s.drop b) zjg=true:=by simpa using c3
    have hb2:b+2<=s.length:=by have:=zpK c3';simp at this;omega
    by_cases c4:¬ ((k=66\/k=98)\/(k=81\/k=113))
    .refine zi (decide_eq_true (.inl c4)) ?_
     dsimp only
     rw[hkd,zh9,if_neg (fun h=>c4 (.inl h)),if_neg (fun h=>c4 (.inr h))];rfl
    .refine zg (decide_eq_false (fun h=>h.elim c4 c3)) ?_
     rw[e3,show(((a+3:Nat):Int)).toNat=a+3 from rfl,show((b:Int)).toNat=b from rfl]
     refine zy ?_
     refine zy ?_
     have htl:=znT s (a+3) b
     dsimp only
     generalize (s.take b).drop (a+3)=t at htl ⊢
     have hm:=znT s (i+2) a
     have fin:∀ u:List UInt8,u.length<=1000000->zgG (s.length+1) s (i:Int) (a:Int) (b:Int) u=
      some (zAn (if zL ((s.take a).drop (i+2))=zfU\/zL ((s.take a).drop (i+2))=zdF then(u,((b+2:Nat):Int),zaS u)
       else if zL ((s.take a).drop (i+2))=zx1 then(zac u,((b+2:Nat):Int),true) else([],0,false)),[]):=fun u hu=>by
      rw[zy2,e2,show(((i+2:Nat):Int)).toNat=i+2 from rfl,show((a:Int)).toNat=a from rfl]
      refine zy ?_
      refine zy ?_
      refine zd (by omega) ?_
      generalize zL ((s.take a).drop (i+2))=q
      have six:∀ B,B=decide (q=zfU\/q=zdF)->zkI (s.length+1) (b:Int) u q B=some (zAn (if q=zfU\/q=zdF then(u,((b+2:Nat):Int),zaS u)
       else if q=zx1 then(zac u,((b+2:Nat):Int),true) else([],0,false)),[]):=by
       intro B hB
       rw[hB,zyZ]
       by_cases q1:q=zfU\/q=zdF
       .refine zi (decide_eq_true q1) (zd (by unfold zh;omega) (zd hu ?_))
        rw[if_pos q1];rfl
       .refine zg (decide_eq_false q1) ?_
        rw[if_neg q1]
        by_cases q2:q=zx1
        .refine zi (by rw[q2];rfl) (zd hu (zd (by unfold zh;omega) ?_))
         rw[if_pos q2];rfl
        .refine zg (by simpa using q2) ?_
         rw[if_neg q2];rfl
      rw[zy0]
      by_cases q3:q=zfU
      .refine zi (by rw[q3];rfl) (six _ (by rw[q3];rfl))
      .refine zg (by simpa using q3) (six _ (by rw[Bool.eq_iff_iff];simp[q3]))
     have hl:=zfi t 0 0
     have hq:=zpf _ (zb5 t 95 32) (Nat.le_refl _)
     rw[znR]at hq
     rw[hkd,zh9,hk98]
     by_cases k1:k=66\/k=98
     .refine zi (decide_eq_true k1) (zd (by omega) ?_)
      rw[if_pos k1]
      exact fin _ (by unfold zfj;omega)
     .refine zg (decide_eq_false k1) ?_
      have k2:k=81\/k=113:=(Classical.not_not.1 c4).resolve_left k1
      rw[if_neg k1,if_pos k2]
      have:=zNh (s.length+1) s (i:Int) (a:Int) (b:Int) t (s.length+1) 0 t rfl (by omega) (by omega) (by omega)
      refine Eq.trans this ?_
      exact fin _ (by simpa using Nat.le_trans hq (by omega))
def zoI:List AV->Option (AV×Option Prop)
 | [.p (.str s),.p (.int .i64 i)]=>some (.tup [.p (.str ((zpl s i).1)),.p (.int .i64 ((zpl s i).2.1)),.p (.bool ((zpl s i).2.2))],some (zaO s i))
 | _=>none
theorem zIX:zn Tryz.prog 154 zoI:=by
 intro zs r ok he hok
 unfold zoI at he
 split at he
 .cases he;exact⟨by kernel_rfl,zJ4 (_) _ _ _ fun hx=>zIA _ _ hok⟩
 .cases he
end Go.Proofs.YtampckbjinodgaaGreatDoor
