/-
  Lifted functions, and facts about them.
-/
import Derived.Test.YtampckbjinodgaaGreatDoorRows
import Derived.Test.YtampckbjinodgaaGreatDoorC01
import Derived.Test.YtampckbjinodgaaGreatDoorAmC
import Derived.Lib.Bytealg
import Derived.WalkKit
import Derived.Lib.Walk
import Derived.Lib.Builder
import Derived.Shelf.RegionOpenPlain
import Derived.Lib.UnsafeStr
import Derived.Lib.MakeNoZero
import Derived.Laws.IdiomCopy
set_option linter.unusedVariables false
noncomputable section
namespace Go.Proofs.YtampckbjinodgaaGreatDoor
open Go Go.Am
def zyl:=mkG [] [] 32 [] [([0,1,0,1,1],⟨[0,3,10,11],[⟨.slot 3,3,(.barr 5 false [])⟩]⟩),([1,0,1,1,0,0,1,1,0,0,1,0,1,1],⟨[0,3,5,10,11,22],[⟨.slot 3,3,(.barr 5 false [])⟩]⟩),([1,1,1,0,0,1,1,0,0,1,0,1,1],⟨[0,3,5,10,11],[⟨.slot 3,3,(.barr 5 false [])⟩]⟩)] []
def zk5(F f1:Nat)(s:List UInt8)(vi1 vi2:Int)(vb3:List UInt8):=zH zyl Tryz.f27 F [] [1,1,0,1,0] f1 [(0,pS s),(3,.arr 3),(10,pI vi1),(11,pI vi2)] [(3,.barr 5 true vb3)]
def zEN(F f1:Nat)(s:List UInt8)(vi4 vi1 vi2:Int)(vc5:Bool)(vb3:List UInt8):=zx zyl Tryz.f27 F [f1] [1,1,0,1,0,0,1,1,0,0,1,1,0,1] [(0,pS s),(3,.arr 3),(5,.p (.int .u8 vi4)),(10,pI vi1),(11,pI vi2),(22,pB vc5)] [(3,.barr 5 true vb3)]
def zwH(F f1:Nat)(s:List UInt8)(vi6 vi1 vi2:Int)(vb3:List UInt8):=zx zyl Tryz.f27 F [f1] [1,1,0,1,0,0,1,1,0,0,1,1,1] [(0,pS s),(3,.arr 3),(5,.p (.int .u8 vi6)),(10,pI vi1),(11,pI vi2)] [(3,.barr 5 true vb3)]
def zNd(F:Nat)(s:List UInt8):=zF zyl Tryz.f27 F [pS s]
theorem zru(F f1 s vi1 vi2 vb3):letI A:=((s.getD vi2.toNat 0).toNat:Int);zk5 F (f1+1) s vi1 vi2 vb3=cond (decide (vi2<vi1)) (ze (0<=vi2/\vi2<(s.length:Int)) (zEN F f1 s A vi1 vi2 ((decide (A>=65))&&(decide (A<=90))) vb3)) (some (.p (.str vb3),[])):=letI A:=(decide (((s.getD vi2.toNat 0).toNat:Int)>=65))=true;Eq.trans (by kernel_rfl) (zj (zf (nI A (nI A rfl))) rfl)
theorem zC9(F f1 s vi4 vi1 vi2 vc5 vb3):zEN F f1 s vi4 vi1 vi2 vc5 vb3=cond vc5 (zwH F f1 s (IntKind.u8.wrap (vi4+32)) vi1 vi2 vb3) (zwH F f1 s vi4 vi1 vi2 vb3):=by kernel_rfl
theorem zrt(F f1 s vi6 vi1 vi2 vb3):zwH F f1 s vi6 vi1 vi2 vb3=ze ((vb3.length+[UInt8.ofNat vi6.toNat].length)*1<=140737488355328) (ze (zh (vi2+1)) (zk5 F f1 s vi1 (vi2+1) (vb3++[UInt8.ofNat vi6.toNat]))):=by kernel_rfl
theorem zNc(F s):letI A:=(s.length:Int);letI B:=(0:Int);zNd F s=ze (0<=B/\B<=A/\(1:Int)*A<=281474976710656/\A<=9223372036854775807) (zk5 F F s A 0 (List.replicate B.toNat 0)):=by kernel_rfl
theorem zPA(F s r):IsP 27 (zNd F s) [.p (.str s)] r:=zG zyl rfl trivial
def zqi:=mkG [] [] 35 [] [([0,1,0,1,1],⟨[3,4],[⟨.slot 3,3,.cells []⟩]⟩),([1,0,0,1,0,0,1,0,1,1],⟨[3,4,24],[⟨.slot 3,3,.cells []⟩]⟩),([1,1,0,0,1,0,1,1],⟨[3,4],[⟨.slot 3,3,.cells []⟩]⟩)] [([0,1],[1])]
def zkB(F f1:Nat)(vi1:Int)(vb2:List UInt8):=zH zqi Tryz.f25 F [] [1,1,0,1,0] f1 [(3,.arr 3),(4,pI vi1)] [(3,.bcv 5 vb2)]
def zyW(F f1:Nat)(vi1:Int)(vc3:Bool)(vb2:List UInt8):=zx zqi Tryz.f25 F [f1] [1,1,0,1,0,0,1,0,0,1] [(3,.arr 3),(4,pI vi1),(24,pB vc3)] [(3,.bcv 5 vb2)]
def zqW(F f1:Nat)(vi1:Int)(vb4:List UInt8):=zx zqi Tryz.f25 F [f1] [1,1,0,1,0,0,1,1] [(3,.arr 3),(4,pI vi1)] [(3,.bcv 5 vb4)]
def zBY(F:Nat)(s:List UInt8):=zF zqi Tryz.f25 F [pS s]
theorem zm4(F f1 vi1 vb2):letI A:=((vb2.getD vi1.toNat 0).toNat:Int);letI B:=(vb2.length:Int);letI C:=decide (A>=65);zkB F (f1+1) vi1 vb2=cond (decide (vi1<B)) (ze (0<=vi1/\vi1<B) (ze (vi1.toNat<vb2.length) (ze (C=true->0<=vi1/\vi1<B) (ze (C=true->vi1.toNat<vb2.length) (zyW F f1 vi1 (C&&(decide (A<=90))) vb2))))) (some (.p (.str vb2),[])):=letI A:=(decide (((vb2.getD vi1.toNat 0).toNat:Int)>=65))=true;Eq.trans (by kernel_rfl) (zj (zf (zf (nI A (nI A (zf (nI A (zf (nI A (nI A rfl))))))))) rfl)
theorem zyV(F f1 vi1 vc3 vb2):letI A:=0<=vi1/\vi1<(vb2.length:Int);letI B:=vi1.toNat<vb2.length;zyW F f1 vi1 vc3 vb2=cond vc3 (ze A (ze B (ze A (ze B (zqW F f1 vi1 (vb2.set vi1.toNat (UInt8.ofNat (IntKind.u8.wrap (((vb2.getD vi1.toNat 0).toNat:Int)+32)).toNat))))))) (zqW F f1 vi1 vb2):=by kernel_rfl
theorem zm3(F f1 vi1 vb4):zqW F f1 vi1 vb4=ze (zh (vi1+1)) (zkB F f1 (vi1+1) vb4):=by kernel_rfl
theorem zHa(F s):zBY F s=zkB F F 0 s:=by kernel_rfl
theorem zJ2(F s r):IsP 25 (zBY F s) [.p (.str s)] r:=zG zqi rfl trivial
def zeI(b:UInt8):UInt8:=if 65<=b.toNat/\b.toNat<=90 then b+32 else b
def zL(s:List UInt8):List UInt8:=s.map zeI
theorem zJq(b:UInt8)(h:65<=b.toNat/\b.toNat<=90):UInt8.ofNat (IntKind.u8.wrap ((b.toNat:Int)+(32:Int))).toNat=zeI b:=by
 have e:((b.toNat:Int)+32)=((b.toNat+32:Nat):Int):=by omega
 rw[e,zcO,zeI,if_pos h]
 apply UInt8.toNat_inj.1
 rw[UInt8.toNat_ofNat',UInt8.toNat_add];rfl
theorem zRY(b:UInt8)(h:¬ (65<=b.toNat/\b.toNat<=90)):UInt8.ofNat ((b.toNat:Int)).toNat=zeI b:=by
 rw[zeI,if_neg h,Int.toNat_natCast,UInt8.ofNat_toNat]
theorem zHZ(b:UInt8):((decide ((b.toNat:Int)>=(65:Int)))&&(decide ((b.toNat:Int)<=(90:Int))))=decide (65<=b.toNat/\b.toNat<=90):=by
 rw[<-Bool.decide_and];exact decide_eq_decide.2 (by omega)
theorem zC8(F:Nat)(s:List UInt8)(hs:s.length<=140737488355328):∀ (r:List UInt8) (f i:Nat) (acc:List UInt8),s.drop i=r->acc.length=i->r.length<f->i<=s.length->
 zk5 F f s (s.length:Int) (i:Int) acc=some (.p (.str (acc++r.map zeI)),[]):=by
 intro r
 induction r with
 | nil=>
  intro f i acc hd ha hf hi
  have:i=s.length:=by have:=congrArg List.length hd;simp at this;omega
  cases f with
  | zero=>omega
  | succ f=>
   rw[zru]
   refine zea ?_
   simp
 | cons c r ih=>
  intro f i acc hd ha hf hi
  obtain⟨h1,h2,h3⟩:=yg hd
  cases f with
  | zero=>omega
  | succ f=>
   rw[zru]
   refine zd9 ?_
   refine zy ?_
   rw[Int.toNat_natCast,h1,zC9,zHZ]
   have e:(i:Int)+1=((i+1:Nat):Int):=by omega
   have step:∀ d,zk5 F f s (s.length:Int) ((i:Int)+1) (acc++[d])=some (.p (.str (acc++d::r.map zeI)),[]):=fun d=>by
    rw[e,ih f (i+1) (acc++[d]) h2 (by simp[ha]) (by simp at hf;omega) (by omega)];simp
   by_cases hc:65<=c.toNat/\c.toNat<=90
   .refine zi (by simpa using hc) ?_
    rw[zrt]
    refine zy ?_
    refine zy ?_
    rw[zJq c hc,step];rfl
   .refine zg (by simpa using hc) ?_
    rw[zrt]
    refine zy ?_
    refine zy ?_
    rw[zRY c hc,step];rfl
theorem zQf(s:List UInt8)(hs:s.length<=140737488355328):zNd (s.length+1) s=some (.p (.str (zL s)),[]):=by
 rw[zNc]
 refine zy ?_
 exact zC8 _ s hs s (s.length+1) 0 [] rfl rfl (by omega) (by omega)
def zcW:List AV->Option (AV×Option Prop)
 | [.p (.str s)]=>some (.p (.str (zL s)),some (s.length<=140737488355328))
 | _=>none
theorem zfg:zn Tryz.prog 27 zcW:=by
 intro zs r ok he hok
 unfold zcW at he
 split at he
 .cases he;exact⟨by kernel_rfl,zPA (_) _ _ fun hx=>zQf _ hok⟩
 .cases he
theorem zyU(F:Nat):∀ (r:List UInt8) (f i:Nat) (l:List UInt8),l.length<=140737488355328->l.drop i=r->r.length<f->i<=l.length->
 zkB F f (i:Int) l=some (.p (.str (l.take i++r.map zeI)),[]):=by
 intro r
 induction r with
 | nil=>
  intro f i l hl hd hf hi
  have:i=l.length:=by have:=congrArg List.length hd;simp at this;omega
  cases f with
  | zero=>omega
  | succ f=>
   rw[zm4]
   refine zea ?_
   rw[this];simp
 | cons c r ih=>
  intro f i l hl hd hf hi
  obtain⟨h1,h2,h3⟩:=yg hd
  cases f with
  | zero=>omega
  | succ f=>
   rw[zm4]
   refine zd9 ?_
   refine zy ?_
   refine zy ?_
   refine zd (fun _=>by omega) (zd (fun _=>by omega) ?_)
   rw[Int.toNat_natCast,h1,zyV,zHZ]
   have e:(i:Int)+1=((i+1:Nat):Int):=by omega
   by_cases hc:65<=c.toNat/\c.toNat<=90
   .refine zi (by simpa using hc) ?_
    refine zy ?_
    refine zy ?_
    refine zy ?_
    refine zy ?_
    rw[zm3]
    refine zy ?_
    rw[Int.toNat_natCast,h1,zJq c hc,e,ih f (i+1) (l.set i (zeI c)) (by simpa using hl) (by rw[List.drop_set_of_lt (by omega)];exact h2) (by simp at hf;omega) (by simp;omega)]
    rw[List.take_set,List.take_add_one]
    have:l[i]?=some c:=by
     have:(l.drop i)[0]?=some c:=by rw[hd];rfl
     simpa using this
    rw[this]
    congr 4
    have hlen:(l.take i).length=i:=by simp;omega
    simp only[Option.toList_some,List.map_cons]
    rw[List.set_append_right _ _ (by omega),hlen]
    simp
   .refine zg (by simpa using hc) ?_
    rw[zm3]
    refine zy ?_
    rw[e,ih f (i+1) l hl h2 (by simp at hf;omega) (by omega)]
    rw[List.take_add_one]
    have:l[i]?=some c:=by
     have:(l.drop i)[0]?=some c:=by rw[hd];rfl
     simpa using this
    rw[this]
    simp[List.append_assoc,show zeI c=c by rw[zeI,if_neg hc]]
theorem zIy(s:List UInt8)(hs:s.length<=140737488355328):zBY (s.length+1) s=some (.p (.str (zL s)),[]):=by
 rw[zHa]
 exact zyU _ s (s.length+1) 0 s hs rfl (by omega) (by omega)
def zcq:List AV->Option (AV×Option Prop)
 | [.p (.str s)]=>some (.p (.str (zL s)),some (s.length<=140737488355328))
 | _=>none
theorem zeG:zn Tryz.prog 25 zcq:=by
 intro zs r ok he hok
 unfold zcq at he
 split at he
 .cases he;exact⟨by kernel_rfl,zJ2 (_) _ _ fun hx=>zIy _ hok⟩
 .cases he
def ixS(s:List UInt8)(c:Int):Int:=Lib.indexByte s c.toNat.toUInt8
def zdm:List AV->Option (AV×Option Prop)
 | [.p (.str s),.p (.int .u8 c)]=>some (.p (.int .i64 (ixS s c)),none)
 | _=>none
theorem zcY(l:List UInt8)(c:UInt8):Lib.indexByte l c<l.length\/Lib.indexByte l c=-1:=by
 induction l with
 | nil=>right;rfl
 | cons b l ih=>
  unfold Lib.indexByte
  split
  .left;simp
  .split
   .right;rfl
   .left;rename_i h1 h2;simp at h2;simp;omega
theorem zJb:zjY Tryz.prog 140 zdm:=by
 intro zs r ok h hok M w vs hM hvs
 unfold zdm at h
 split at h
 .rename_i s c
  cases h
  cases hvs with
  | cons h1 h2=>cases h2 with
   | cons h2 h3=>
    cases h3
    cases h1 with|p _ _ h1=>
    cases h2 with|p _ _ h2=>
    cases h1 with|str _ hs=>
    cases h2 with|int _ _ hc=>
    refine⟨.int .i64 (ixS s c),?_,.p _ _ (.int _ _ ?_)⟩
    .rw [run_callFunc_extern (fn:=Tryz.f140) (e:=Extern.BytealgIndexByte.indexByte) (by kernel_rfl) (by kernel_rfl) (by kernel_rfl) (by kernel_rfl) (by kernel_rfl)]
     rw[Lib.run_indexByteString];rfl
    .have h1:=Lib.indexByte_ge s c.toNat.toUInt8
     have h2:=zcY s c.toNat.toUInt8
     exact zd6 (by unfold maxLen at hs;unfold zh ixS;omega)
 .cases h
def zMH(fuel:Nat)(s:List UInt8)(c:Int):Option Int:=some (ixS s c)
def zKZ:Code:=yw Tryz.f108
def zPD:Env:=zh1 [(140,zdm)]
theorem zA8:zau Tryz.prog zPD:=zbQ ⟨zJb.any,trivial⟩
theorem zT1(fuel:Nat)(s:List UInt8)(c res:Int)(h:zMH fuel s c=some res)(C:Ctx)(hC:zbA C 8 []):
 T Tryz.prog C (at_ zKZ []) (mkS [(0,.p (.str s)),(1,.p (.int .u8 c))] []) (zP0 Tryz.prog C Tryz.f108.results.toList (.p (.int .i64 res))):=by
 have henv:=zA8
 unfold zMH at h
 refine zl4 (p:=[]) (by kernel_rfl) ?_
 refine ztj henv hC [] [(0,.p (.str s)),(1,.p (.int .u8 c))] [] [] (by kernel_rfl) (by kernel_rfl) trivial (fun s1 hs1=>?_)
 refine(T.weaken ?_ hs1:T Tryz.prog C (at_ zKZ [1]) _ _)
 refine zl4 (p:=[1]) (by kernel_rfl) ?_
 refine ztj henv hC [] [(4,.p (.int .i64 (ixS s c)))] [] [] (by kernel_rfl) (by kernel_rfl) trivial (fun s1 hs1=>?_)
 refine(T.weaken ?_ hs1:T Tryz.prog C (at_ zKZ [1,1]) _ _)
 refine zBm (p:=[1,1]) (by kernel_rfl) ?_
 have h:=Option.some.inj h;subst h
 exact⟨mkS [(4,.p (.int .i64 (ixS s c)))] [],(Sub.refl _),by kernel_rfl⟩
theorem zPl(fuel:Nat)(s:List UInt8)(c res:Int)(h:(∃ M vs,zB γ0 M [.p (.str s),.p (.int .u8 c)] vs)->zMH fuel s c=some res):FnP Tryz.prog 108 [.p (.str s),.p (.int .u8 c)] (.p (.int .i64 res)):=
 zj5 (fn:=Tryz.f108) (by kernel_rfl) (by kernel_rfl) fun M vs hvs C hC0=>have hC:zbA C 8 []:=⟨hC0.nt.trans (by kernel_rfl),hC0.fx⟩;T.weaken (zT1 fuel s c res (h ⟨M,vs,hvs⟩) C hC) (zlD hC (by kernel_rfl) (by kernel_rfl))
def znM:List AV->Option (AV×Option Prop):=zdm
theorem zDq:zn Tryz.prog 108 znM:=by
 intro zs r ok h hok
 unfold znM zdm at h
 split at h
 .cases h;exact⟨by kernel_rfl,zPl 0 _ _ _ fun _=>rfl⟩
 .cases h
theorem u8c(c:UInt8):((c.toNat:Int)).toNat.toUInt8=c:=by simp
def Gixl:=mkG [(108,znM)] [] 143 [] [] []
def zS6(F:Nat)(s:List UInt8)(c:UInt8):=zF Gixl Tryz.f134 F [pS s,.p (.str [c])]
theorem zQl(F s c):letI A:=(0:Int);zS6 F s c=cond (false||([c]==s)) (some (.p (.int .i64 0),[])) (ze (0<=A/\A<([c].length:Int)) (some (.p (.int .i64 (ixS s (([c].getD A.toNat 0).toNat:Int))),[]))):=letI A:=(!false)=true;Eq.trans (by kernel_rfl) (nI A (nI A (nN false rfl)))
theorem zSs(F s c r):IsP 134 (zS6 F s c) [.p (.str s),.p (.str [c])] r:=zG Gixl rfl ⟨zDq.any,trivial⟩
theorem zR4(s:List UInt8)(c:UInt8):zS6 0 s c=some (.p (.int .i64 (ixS s (c.toNat:Int))),[]):=by
 rw[zQl]
 by_cases h:[c]=s
 .refine zi (by simp[h]) ?_
  subst h
  have:ixS [c] (c.toNat:Int)=0:=by unfold ixS;rw[u8c];simp[Lib.indexByte]
  rw[this]
 .refine zg (by simp[h]) ?_
  exact zd (by simp) rfl
def zuf:List AV->Option (AV×Option Prop)
 | [.p (.str s),.p (.str [c])]=>some (.p (.int .i64 (ixS s (c.toNat:Int))),none)
 | _=>none
theorem zI2:zn Tryz.prog 134 zuf:=by
 intro zs r ok he hok
 unfold zuf at he
 split at he
 .cases he;exact⟨by kernel_rfl,zSs 0 _ _ _ fun hx=>zR4 _ _⟩
 .cases he
def Gix1:=mkG [(134,zuf)] [] 8 [] [] []
def zS8(F:Nat)(s:List UInt8)(c:UInt8):=zF Gix1 Tryz.f101 F [pS s,.p (.str [c])]
theorem zQm(F s c):zS8 F s c=some (.p (.int .i64 (ixS s (c.toNat:Int))),[]):=by kernel_rfl
theorem zSu(F s c r):IsP 101 (zS8 F s c) [.p (.str s),.p (.str [c])] r:=zG Gix1 rfl ⟨zI2.any,trivial⟩
theorem zR6(s:List UInt8)(c:UInt8):zS8 0 s c=some (.p (.int .i64 (ixS s (c.toNat:Int))),[]):=by rw[zQm]
def zzX:List AV->Option (AV×Option Prop)
 | [.p (.str s),.p (.str [c])]=>some (.p (.int .i64 (ixS s (c.toNat:Int))),none)
 | _=>none
theorem zRQ:zn Tryz.prog 101 zzX:=by
 intro zs r ok he hok
 unfold zzX at he
 split at he
 .cases he;exact⟨by kernel_rfl,zSu 0 _ _ _ fun hx=>zR6 _ _⟩
 .cases he
section
open Go.RowKit Go.Lib
set_option maxRecDepth 100000 in
theorem zu8(b:Nat)(w:World)(h0:w.cell? ⟨b,0,none⟩=some (.pointer (some ⟨b,0,none⟩))):
 Calls Tryz.prog 110 #[.pointer (some ⟨b,0,none⟩)] w fun e w'=>e=.returned (.tuple #[])/\w'=w:=by
 obtain⟨j,hj,_⟩:=Option.map_eq_some_iff.1 (show(Tryz.prog.info? 124).map (·.size)=some 2 by kernel_rfl)
 go_enter Tryz.func110,Tryz.ntmps110
 go_wp2
 rw[Lib.run_neq_ptr_same w _ Tryz.underlying122 hj]
 go_wp2
 go_end0
 exact⟨rfl,rfl⟩
set_option maxRecDepth 100000 in
theorem zp4(b:Nat)(w:World)(h0:w.cell? ⟨b,0,none⟩=some (.pointer none))(hsh:w.shape? b=some (124,2))(hfz:w.frozen? ⟨b,0,none⟩=false):
 Calls Tryz.prog 110 #[.pointer (some ⟨b,0,none⟩)] w fun e w'=>e=.returned (.tuple #[])/\w'=w.setCell ⟨b,0,none⟩ (.pointer (some ⟨b,0,none⟩)):=by
 obtain⟨j,hj,hjs⟩:=Option.map_eq_some_iff.1 (show(Tryz.prog.info? 124).map (·.size)=some 2 by kernel_rfl)
 go_enter Tryz.func110,Tryz.ntmps110
 go_wp2
 rw[Lib.run_to_unsafe w ⟨b,0,none⟩ Tryz.underlying122 Tryz.underlying189 hj (by rw[hjs];decide) hsh (Nat.zero_lt_succ 1)]
 simp only[Result.andThen]
 rw[Oper.upon_value]
 go_wp2
 rw[run_callFunc_extern Tryz.func142 (by kernel_rfl) (by kernel_rfl) (by kernel_rfl) (e:=Extern.AbiNoEscape.same) (by kernel_rfl)]
 rw[Lib.run_noEscape]
 simp only[Result.andThen]
 rw[Oper.upon_value]
 go_wp2
 rw[Lib.run_from_unsafe w ⟨b,0,none⟩ Tryz.underlying189 Tryz.underlying122 hj hsh (by kernel_rfl)]
 simp only[Result.andThen]
 rw[Oper.upon_value]
 go_wp2
 go_end0
 exact⟨rfl,rfl⟩
set_option maxRecDepth 100000 in
theorem zK4(W:World)(q:Option Addr):(Builtin.unsafeString_ #[174,3] 9 #[.pointer q,.int .i64 0]).run Tryz.prog W=.ok (.string .empty) W:=
 Lib.run_unsafeString_none W _ _ _ q
set_option maxHeartbeats 1000000 in
theorem zSL(b g cap:Nat)(p:Value)(cur:Array Value)(l:List UInt8)(w:World)(h0:l≠[])(hbk:w.heap[b]?=some (.cells #[p,.slice (some ⟨g,0,none⟩) l.length cap] 124 (0,0)))
 (hg:w.heap[g]?=some (.cells cur 5 (0,0))) (hnc:l.length<=cap) (hcm:cap<=maxLen) (hcs:cur.size=cap) (hcell:∀ i c,l[i]?=some c->w.cell? ⟨g,i,none⟩=some (zat c)):
 Calls Tryz.prog 78 #[.pointer (some ⟨b,0,none⟩)] w fun e w'=>e=.returned (.string ⟨l.toArray⟩)/\w'=w.drew.freeze ⟨g,0,none⟩ l.length:=by
 have hl0:l.length≠0:=by simpa using h0
 have c1:w.drew.cell? ⟨b,1,none⟩=some (.slice (some ⟨g,0,none⟩) l.length cap):=by
  have:w.drew.heap[b]?=some (.cells #[p,.slice (some ⟨g,0,none⟩) l.length cap] 124 (0,0)):=hbk
  rw[Lib.cell_of_heap this];rfl
 have hSD:(Builtin.unsafeSliceData_ #[34] 174 #[.slice (some ⟨g,0,none⟩) l.length cap]).run Tryz.prog w.drew=.ok (.pointer (some ⟨g,0,none⟩)) w.drew:=
  Lib.run_unsafeSliceData_row _ _ _ _ _ _ (by omega)
 have hUS:(Builtin.unsafeString_ #[174,3] 9 #[.pointer (some ⟨g,0,none⟩),.int .i64 l.length]).run Tryz.prog w.drew=.ok (.string ⟨l.toArray⟩) (w.drew.freeze ⟨g,0,none⟩ l.length):=by
  refine Lib.run_unsafeString_row w.drew 174 3 9 5 Tryz.underlying174 (by kernel_rfl) g cur.size (by have hg':w.drew.heap[g]?=some (.cells cur 5 (0,0)):=hg;simp[World.shape?,hg']) l h0 (by omega) (by unfold maxLen at hcm;omega) ?_
  intro j x hx
  have:=hcell j x hx
  have e:(⟨g,0,none⟩:Addr).add j=⟨g,j,none⟩:=by rw[zad,Nat.zero_add]
  rw[e];exact this
 clear hcell
 go_enter Tryz.func78,Tryz.ntmps78
 go_wp2
 have mixed:=Checked.mixed Tryz.checked
 go_region_o
 all_goals (go_wp2;go_ret;exact⟨rfl,rfl⟩)
set_option maxHeartbeats 1000000 in
theorem zK5(b:Nat)(p:Value)(w:World)(hbk:w.heap[b]?=some (.cells #[p,.slice none 0 0] 124 (0,0))):
 Calls Tryz.prog 78 #[.pointer (some ⟨b,0,none⟩)] w fun e w'=>e=.returned (.string ⟨#[]⟩)/\Below w.heap.size w w':=by
 have hUS:=zK4
 have c1:w.drew.cell? ⟨b,1,none⟩=some (.slice none 0 0):=by
  have:w.drew.heap[b]?=some (.cells #[p,.slice none 0 0] 124 (0,0)):=hbk
  rw[Lib.cell_of_heap this];rfl
 have hSD:(Builtin.unsafeSliceData_ #[34] 174 #[.slice none 0 0]).run Tryz.prog w.drew=.ok (.pointer none) w.drew:=rfl
 go_enter Tryz.func78,Tryz.ntmps78
 go_wp2
 have mixed:=Checked.mixed Tryz.checked
 go_region_o
 all_goals (go_wp2;go_ret;exact⟨rfl,Below.drew (Below.refl _ w)⟩)
set_option maxHeartbeats 1000000 in
theorem zGP(b g:Nat)(p:Value)(cur:Array Value)(w:World)(hbk:w.heap[b]?=some (.cells #[p,.slice (some ⟨g,0,none⟩) 0 0] 124 (0,0)))(hg:w.heap[g]?=some (.cells cur 5 (0,0))):
 Calls Tryz.prog 78 #[.pointer (some ⟨b,0,none⟩)] w fun e w'=>e=.returned (.string ⟨#[]⟩)/\Below w.heap.size w w':=by
 have hUS:=zK4
 have hlt:b<w.heap.size:=by
  rcases Nat.lt_or_ge b w.heap.size with h'|h'
  .exact h'
  .simp [Array.getElem?_eq_none h']at hbk
 have c1:w.drew.cell? ⟨b,1,none⟩=some (.slice (some ⟨g,0,none⟩) 0 0):=by
  have:w.drew.heap[b]?=some (.cells #[p,.slice (some ⟨g,0,none⟩) 0 0] 124 (0,0)):=hbk
  rw[Lib.cell_of_heap this];rfl
 have hSD:(Builtin.unsafeSliceData_ #[34] 174 #[.slice (some ⟨g,0,none⟩) 0 0]).run Tryz.prog w.drew=.ok (.pointer (some ⟨w.drew.heap.size,0,none⟩)) (w.drew.alloc (.view ⟨g,0,none⟩ 5)):=
  Lib.run_unsafeSliceData_zero w.drew _ _ 5 Tryz.underlying174 ⟨g,0,none⟩ 0 (5,cur.size) (by have hg':w.drew.heap[g]?=some (.cells cur 5 (0,0)):=hg;simp[World.shape?,hg'])
 have c2:(w.drew.alloc (.view ⟨g,0,none⟩ 5)).cell? ⟨b,1,none⟩=some (.slice (some ⟨g,0,none⟩) 0 0):=by
  have:(w.drew.alloc (.view ⟨g,0,none⟩ 5)).heap[b]?=_:=(Lib.alloc_old w.drew _ b hlt).trans hbk
  rw[Lib.cell_of_heap this];rfl
 have c3:(w.alloc (.view ⟨g,0,none⟩ 5)).drew.cell? ⟨b,1,none⟩=some (.slice (some ⟨g,0,none⟩) 0 0):=c2
 have c0:w.cell? ⟨b,1,none⟩=some (.slice (some ⟨g,0,none⟩) 0 0):=c1
 go_enter Tryz.func78,Tryz.ntmps78
 go_wp2
 have mixed:=Checked.mixed Tryz.checked
 go_region_o
 all_goals (go_wp2;go_ret;exact⟨rfl,(Below.drew (Below.refl _ w)).alloc (Nat.le_refl _) _⟩)
set_option maxHeartbeats 1000000 in
theorem zPO(b g cap:Nat)(p:Value)(w:World)(hc0:cap≠0)(hbk:w.heap[b]?=some (.cells #[p,.slice (some ⟨g,0,none⟩) 0 cap] 124 (0,0))):
 Calls Tryz.prog 78 #[.pointer (some ⟨b,0,none⟩)] w fun e w'=>e=.returned (.string ⟨#[]⟩)/\Below w.heap.size w w':=by
 have hUS:=zK4
 have c1:w.drew.cell? ⟨b,1,none⟩=some (.slice (some ⟨g,0,none⟩) 0 cap):=by
  have:w.drew.heap[b]?=some (.cells #[p,.slice (some ⟨g,0,none⟩) 0 cap] 124 (0,0)):=hbk
  rw[Lib.cell_of_heap this];rfl
 have hSD:(Builtin.unsafeSliceData_ #[34] 174 #[.slice (some ⟨g,0,none⟩) 0 cap]).run Tryz.prog w.drew=.ok (.pointer (some ⟨g,0,none⟩)) w.drew:=
  Lib.run_unsafeSliceData_row _ _ _ _ _ _ hc0
 clear hc0
 go_enter Tryz.func78,Tryz.ntmps78
 go_wp2
 have mixed:=Checked.mixed Tryz.checked
 go_region_o
 all_goals (go_wp2;go_ret;exact⟨rfl,Below.drew (Below.refl _ w)⟩)
end
section
open Go.RowKit Go.Lib
theorem zeP{γ:Nat->Option G}{M:Mem}{w:World}{L:Nat->Prop}{obF:Nat->Option AObj}{id:Nat}{T:TypeId}{a:AV}(hO:zhW γ M w obF L)(ho:obF id=some (.bldr T a)):
 ∃ b v0 v1,γ id=some (.cell b)/\w.heap[b]?=some (.cells #[v0,v1] T (0,0))/\(v0=.pointer none\/v0=.pointer (some ⟨b,0,none⟩))/\zp γ M a v1/\v1.oneCell'=true/\(∀ o,M b o=none):=hO.ob id _ ho
theorem zMw(a:AV)(rest:List (Nat×AObj)):
 FnR Tryz.prog 110 [.ref 70000 0] ((70000,.bldr 124 a)::rest) (70000::rest.map (·.1)) (.tup []) ((70000,.bldr 124 a)::rest):=by
 intro γ M w vs hO hnone hM hvs
 obtain⟨b,v0,v1,hg,hh,h0,h1,h2,hm⟩:=zeP (id:=70000) hO rfl
 cases hvs with
 | cons hx ht=>
  cases ht
  obtain⟨b',hg',rfl⟩:=hx.ref_inv
  rw[hg]at hg';cases hg'
  have hb:Go.Am.Handed γ ((70000,.bldr 124 a)::rest) b:=⟨70000,.cell b,by simp[zm],hg,rfl⟩
  have hlt:b<w.heap.size:=hO.lo 70000 _ b (by simp[zm]) hg rfl
  have e0:([Value.pointer (some ⟨b,0,none⟩)]:List Value).toArray=#[.pointer (some ⟨b,0,none⟩)]:=rfl
  rcases h0 with rfl|rfl
  .have hc0:w.cell? ⟨b,0,none⟩=some (.pointer none):=by rw[cell_of_row w b 0 _ _ _ hh];rfl
   refine(zp4 b w hc0 (by simp[World.shape?,hh]) (by simp[World.frozen?,hh])).mono fun e w' ⟨he,hw⟩=>?_
   subst hw
   have hset:(w.setCell ⟨b,0,none⟩ (.pointer (some ⟨b,0,none⟩)))=w.setRow b #[.pointer (some ⟨b,0,none⟩),v1]:=by
    rw[setCell_eq_setRow w b 0 _ _ _ _ hh];rfl
   rw[hset]
   have hoth:∀ c,c≠b->(w.setRow b #[.pointer (some ⟨b,0,none⟩),v1]).heap[c]?=w.heap[c]?:=fun c hc=>setRow_other w b c _ hc
   refine⟨_,γ,M,he,fun i _ g hgi=>hgi,MLe.refl M,?_,.tup _ _ rfl (fun i hi=>absurd hi (Nat.not_lt_zero _)),⟨?_,hO.sep,?_⟩,?_,by simp,rfl,rfl,rfl⟩
   .refine ⟨?_,hM.good⟩
    intro c o v hv
    have hc:c≠b:=fun e=>by subst e;rw[hm o]at hv;cases hv
    rw[World.cell?_of_block (w:=w) (hoth c hc)];exact hM c o v hv
   .intro i o hi
    by_cases e:i=70000
    .subst e
     have:o=.bldr 124 a:=by simpa[zm]using hi.symm
     subst this
     exact⟨b,_,v1,hg,setRow_heap w b _ _ _ _ hh,.inr rfl,h1,h2,hm⟩
    .refine (hO.ob i o hi).keep (GLe.refl γ) (MLe.refl M) fun g c hgi hgc=>⟨hoth c fun ec=>?_,rfl⟩
     subst ec
     exact e (hO.sep i 70000 g (.cell c) c (by rw[hi];simp) (by simp[zm]) hgi hg hgc rfl)
   .intro i g c hi hgi hgc
    have:=hO.lo i g c hi hgi hgc
    exact⟨.inr ⟨i,g,hi,hgi,hgc⟩,by simpa using this⟩
   .intro c hc hno
    exact⟨hoth c fun e=>hno (by rw[e];exact hb),rfl⟩
  .have hc0:w.cell? ⟨b,0,none⟩=some (.pointer (some ⟨b,0,none⟩)):=by rw[cell_of_row w b 0 _ _ _ hh];rfl
   refine(zu8 b w hc0).mono fun e w' ⟨he,hw⟩=>?_
   subst hw
   exact⟨_,γ,M,he,fun i _ g hgi=>hgi,MLe.refl M,hM,.tup _ _ rfl (fun i hi=>absurd hi (Nat.not_lt_zero _)),⟨hO.ob,hO.sep,fun i g c hi hgi hgc=>⟨.inr ⟨i,g,hi,hgi,hgc⟩,hO.lo i g c hi hgi hgc⟩⟩,
    fun c hc hno=>⟨rfl,rfl⟩,Nat.le_refl _,rfl,rfl,rfl⟩
theorem zxC(w:World)(a:Addr)(n:Nat)(p:Addr):(w.drew.freeze a n).cell? p=w.cell? p:=by
 unfold World.freeze
 split
 .rfl
 .have hd:w.drew.heap=w.heap:=rfl
  simp only[World.cell?,Array.getElem?_modify,hd]
  by_cases e:a.block=p.block
  .rw [if_pos e]
   cases hh2:w.heap[p.block]? with
   | none=>rfl
   | some o=>cases o <;> rfl
  .rw [if_neg e]
theorem zca{γ:Nat->Option G}{M:Mem}{w w':World}{ib:List (Nat×AObj)}{l:List UInt8}(hM:MOk M w)(hl:l.length<=maxLen)(hold:∀ c,c<w.heap.size->¬ Go.Am.Handed γ ib c->w'.heap[c]?=w.heap[c]?)(hcell:∀ c o v,M c o=some v->w'.cell? ⟨c,o,none⟩=w.cell? ⟨c,o,none⟩)
 (hsz:w.heap.size<=w'.heap.size) (h1:w'.os=w.os) (h2:w'.tape=w.tape) (h3:w'.output=w.output):
 ∃ v γ' M',Ending.returned (.string ⟨l.toArray⟩)=.returned v/\(∀ i ∈ ([]:List Nat),∀ g,γ i=some g->γ' i=some g)/\MLe M M'/\MOk M' w'/\zp γ' M' (.p (.str l)) v/\
  zhW γ' M' w' (fun i=>zm i []) (fun b=>(w.heap.size<=b\/Go.Am.Handed γ ib b)/\b<w'.heap.size)/\
  (∀ b,b<w.heap.size->¬ Go.Am.Handed γ ib b->w'.heap[b]?=w.heap[b]?/\M' b=M b)/\w.heap.size<=w'.heap.size/\w'.os=w.os/\w'.tape=w.tape/\w'.output=w.output:=
 ⟨_,γ,M,rfl,fun i hi=>(by cases hi),MLe.refl M,⟨fun c o v hv=>(by rw[hcell c o v hv];exact hM c o v hv),hM.good⟩,.p _ _ (.str l hl),
  ⟨fun i o hi=>(by cases hi),fun i j g g' b hi=>absurd rfl hi,fun i g b hi=>absurd rfl hi⟩,fun b hb hno=>⟨hold b hb hno,rfl⟩,hsz,h1,h2,h3⟩
theorem zfu{w w':World}(hb:Below w.heap.size w w'){M:Mem}(hM:MOk M w):∀ c o v,M c o=some v->w'.cell? ⟨c,o,none⟩=w.cell? ⟨c,o,none⟩:=fun c o v hv=>by
 have hc:c<w.heap.size:=by
  rcases Nat.lt_or_ge c w.heap.size with h|h
  .exact h
  .have:=hM c o v hv
   simp[World.cell?,Array.getElem?_eq_none h]at this
 exact hb.cell (p:=⟨c,o,none⟩) hc
theorem zQh(mu:Bool)(l:List UInt8):
 FnR Tryz.prog 78 [.ref 70000 0] [(70000,.bldr 124 (.arr 70001)),(70001,.barr 5 mu l)] [] (.p (.str l)) []:=by
 intro γ M w vs hO hnone hM hvs
 obtain⟨b,v0,v1,hg,hh,h0,h1,h2,hm⟩:=zeP (id:=70000) hO rfl
 obtain⟨a,cap,hg1,hA⟩:=hO.ob 70001 (.barr 5 mu l) rfl
 cases hvs with
 | cons hx ht=>
  cases ht
  obtain⟨b',hg',rfl⟩:=hx.ref_inv
  rw[hg]at hg';cases hg'
  obtain⟨a',k',n',cap',hg1',rfl⟩:=h1.arr_inv
  rw[hg1]at hg1';cases hg1'
  cases a with
  | none=>
   obtain⟨hl,rfl⟩:=hA.none
   have:l=[]:=List.eq_nil_of_length_eq_zero hl
   subst this
   refine(zK5 b v0 w hh).mono fun e w' ⟨he,hb⟩=>?_
   rw[he]
   exact zca hM (by simp) (fun c hc _=>hb.block c hc) (zfu hb hM) hb.size hb.os hb.tape hb.output
  | some g=>
   rcases hA.own.2 with⟨hv,_⟩|⟨g',cap',cur,hv,_,hgh,hnc,hcm,hcs,htake⟩
   .simp [yX]at hv
   .simp only[yX,Option.map_some,Value.slice.injEq,Option.some.injEq,Addr.mk.injEq,and_true,true_and]at hv
    obtain⟨rfl,rfl⟩:=hv
    have hne:g≠b:=fun e=>by
     subst e
     have:=hO.sep 70000 70001 _ _ g (by simp[zm]) (by simp[zm]) hg hg1 rfl rfl
     cases this
    have hbg:Go.Am.Handed γ [(70000,.bldr 124 (.arr 70001)),(70001,.barr 5 mu l)] g:=⟨70001,_,by simp[zm],hg1,rfl⟩
    by_cases hl:l=[]
    .subst hl
     by_cases hc0:cap=0
     .subst hc0
      refine(zGP b g v0 cur w hh hgh).mono fun e w' ⟨he,hb⟩=>?_
      rw[he]
      exact zca hM (by simp) (fun c hc _=>hb.block c hc) (zfu hb hM) hb.size hb.os hb.tape hb.output
     .refine (zPO b g cap v0 w hc0 hh).mono fun e w' ⟨he,hb⟩=>?_
      rw[he]
      exact zca hM (by simp) (fun c hc _=>hb.block c hc) (zfu hb hM) hb.size hb.os hb.tape hb.output
    .refine (zSL b g cap v0 cur l w hl hh hgh hnc hcm (by simpa using hcs) fun i c hc=>?_).mono fun e w' ⟨he,hw⟩=>?_
     .exact hA.cell i _ (by rw[List.getElem?_map,hc];rfl)
     .subst hw
      rw[he]
      have hoth:∀ c,c≠g->(w.drew.freeze ⟨g,0,none⟩ l.length).heap[c]?=w.heap[c]?:=fun c hc=>by
       unfold World.freeze
       split
       .rfl
       .simp only[Array.getElem?_modify];rw[if_neg (fun e=>hc e.symm)];rfl
      refine zca hM hA.len (fun c hc hno=>hoth c fun e=>hno (by rw[e];exact hbg)) (fun c o v hv=>zxC _ _ _ _) ?_ ?_ ?_ ?_
      .unfold World.freeze;split
       .exact Nat.le_refl _
       .simp only[Array.size_modify];exact Nat.le_refl _
      .unfold World.freeze;split <;> rfl
      .unfold World.freeze;split <;> rfl
      .unfold World.freeze;split <;> rfl
theorem zMt:FnR Tryz.prog 78 [.ref 70000 0] [(70000,.bldr 124 (.p .nil))] [] (.p (.str [])) []:=by
 intro γ M w vs hO hnone hM hvs
 obtain⟨b,v0,v1,hg,hh,h0,h1,h2,hm⟩:=zeP (id:=70000) hO rfl
 cases hvs with
 | cons hx ht=>
  cases ht
  obtain⟨b',hg',rfl⟩:=hx.ref_inv
  rw[hg]at hg';cases hg'
  cases h1.p_inv
  refine(zK5 b v0 w hh).mono fun e w' ⟨he,hb⟩=>?_
  rw[he]
  exact zca hM (by simp) (fun c hc _=>hb.block c hc) (zfu hb hM) hb.size hb.os hb.tape hb.output
def zlA:yM:=⟨[false],fun args ib=>match args,ib with
 | [.ref 70000 0],[(70000,.bldr 124 (.arr 70001)),(70001,.barr 5 mu l)]=>some (([70000,70001],.tup []),([(70000,.bldr 124 (.arr 70001)),(70001,.barr 5 mu l)],none))
 | [.ref 70000 0],[(70000,.bldr 124 (.p .nil))]=>some (([70000],.tup []),([(70000,.bldr 124 (.p .nil))],none))
 | _,_=>none⟩
theorem zux:zS Tryz.prog 110 zlA:=by
 intro args ib kept r zZ ok he hok
 simp only[zlA]at he
 split at he
 .cases he;exact⟨by kernel_rfl,zMw _ _⟩
 .cases he;exact⟨by kernel_rfl,zMw _ []⟩
 .cases he
def zfd:yM:=⟨[false],fun args ib=>match args,ib with
 | [.ref 70000 0],[(70000,.bldr 124 (.arr 70001)),(70001,.barr 5 mu l)]=>some (([],.p (.str l)),([],none))
 | [.ref 70000 0],[(70000,.bldr 124 (.p .nil))]=>some (([],.p (.str [])),([],none))
 | _,_=>none⟩
theorem zjp:zS Tryz.prog 78 zfd:=by
 intro args ib kept r zZ ok he hok
 simp only[zfd]at he
 split at he
 .cases he;exact⟨by kernel_rfl,zQh _ _⟩
 .cases he;exact⟨by kernel_rfl,zMt⟩
 .cases he
end
def Gwsr:=mkG [] [(110,zlA)] 19 [70000] [] [([0,1],[1])]
def Fwsr(F:Nat)(s l:List UInt8):=zam Gwsr Tryz.f76 ⟨[4,5],[⟨.fix 70000,70000,.cells []⟩,⟨.cell 70000 1,70001001,(.barr 5 false [])⟩]⟩ [70000,70001001] F [.ref 70000 0,pS s] [(70000,.bldr 124 (.arr 70001)),(70001,.barr 5 false l)]
theorem zP6(F s l):Fwsr F s l=ze ((l.length+s.length)*1<=140737488355328) (some (.tup [.p (.int .i64 (s.length:Int)),.p (.plain .nilIface)],[(70000,.bldr 124 (.arr 70001001)),(70001001,.barr 5 false (l++s))])):=by kernel_rfl
theorem zSh(F s l r os):IsR 76 (Fwsr F s l) [.ref 70000 0,.p (.str s)] [(70000,.bldr 124 (.arr 70001)),(70001,.barr 5 false l)] [70000] r os:=zb9 Gwsr ⟨[4,5],[⟨.fix 70000,70000,.cells []⟩,⟨.cell 70000 1,70001001,(.barr 5 false [])⟩]⟩ [70000,70001001] rfl trivial (hr:=⟨zux,trivial⟩)
def Gwsn:=mkG [] [(110,zlA)] 19 [70000] [] [([0,1],[1])]
def Fwsn(F:Nat)(s:List UInt8):=zam Gwsn Tryz.f76 ⟨[4,5],[⟨.fix 70000,70000,.cells []⟩,⟨.cell 70000 1,70001001,(.barr 5 false [])⟩]⟩ [70000,70001001] F [.ref 70000 0,pS s] [(70000,.bldr 124 (.p .nil))]
theorem zP7(F s):Fwsn F s=ze (s.length*1<=140737488355328) (some (.tup [.p (.int .i64 (s.length:Int)),.p (.plain .nilIface)],[(70000,.bldr 124 (.arr 70001001)),(70001001,.barr 5 false s)])):=by kernel_rfl
theorem zSi(F s r os):IsR 76 (Fwsn F s) [.ref 70000 0,.p (.str s)] [(70000,.bldr 124 (.p .nil))] [70000] r os:=zb9 Gwsn ⟨[4,5],[⟨.fix 70000,70000,.cells []⟩,⟨.cell 70000 1,70001001,(.barr 5 false [])⟩]⟩ [70000,70001001] rfl trivial (hr:=⟨zux,trivial⟩)
def Gwbr:=mkG [] [(110,zlA)] 17 [70000] [] [([0,1],[1])]
def Fwbr(F:Nat)(c:Int)(l:List UInt8):=zam Gwbr Tryz.f80 ⟨[4],[⟨.fix 70000,70000,.cells []⟩,⟨.cell 70000 1,70001001,(.barr 5 false [])⟩]⟩ [70000,70001001] F [.ref 70000 0,.p (.int .u8 c)] [(70000,.bldr 124 (.arr 70001)),(70001,.barr 5 false l)]
theorem zP8(F c l):Fwbr F c l=ze ((l.length+[UInt8.ofNat c.toNat].length)*1<=140737488355328) (some (.p (.plain .nilIface),[(70000,.bldr 124 (.arr 70001001)),(70001001,.barr 5 false (l++[UInt8.ofNat c.toNat]))])):=by kernel_rfl
theorem zSj(F c l r os):IsR 80 (Fwbr F c l) [.ref 70000 0,.p (.int .u8 c)] [(70000,.bldr 124 (.arr 70001)),(70001,.barr 5 false l)] [70000] r os:=zb9 Gwbr ⟨[4],[⟨.fix 70000,70000,.cells []⟩,⟨.cell 70000 1,70001001,(.barr 5 false [])⟩]⟩ [70000,70001001] rfl trivial (hr:=⟨zux,trivial⟩)
def Gwbn:=mkG [] [(110,zlA)] 17 [70000] [] [([0,1],[1])]
def Fwbn(F:Nat)(c:Int):=zam Gwbn Tryz.f80 ⟨[4],[⟨.fix 70000,70000,.cells []⟩,⟨.cell 70000 1,70001001,(.barr 5 false [])⟩]⟩ [70000,70001001] F [.ref 70000 0,.p (.int .u8 c)] [(70000,.bldr 124 (.p .nil))]
theorem zP9(F c):Fwbn F c=ze ([UInt8.ofNat c.toNat].length*1<=140737488355328) (some (.p (.plain .nilIface),[(70000,.bldr 124 (.arr 70001001)),(70001001,.barr 5 false [UInt8.ofNat c.toNat])])):=by kernel_rfl
theorem zSk(F c r os):IsR 80 (Fwbn F c) [.ref 70000 0,.p (.int .u8 c)] [(70000,.bldr 124 (.p .nil))] [70000] r os:=zb9 Gwbn ⟨[4],[⟨.fix 70000,70000,.cells []⟩,⟨.cell 70000 1,70001001,(.barr 5 false [])⟩]⟩ [70000,70001001] rfl trivial (hr:=⟨zux,trivial⟩)
def ze7:yM:=⟨[false,true],fun args ib=>match args,ib with
 | [.ref 70000 0,.p (.str s)],[(70000,.bldr 124 (.arr 70001)),(70001,.barr 5 false l)]=>some (([70000],.tup [.p (.int .i64 (s.length:Int)),.p (.plain .nilIface)]),([(70000,.bldr 124 (.arr 70001001)),(70001001,.barr 5 false (l++s))],some (l.length+s.length<=140737488355328)))
 | [.ref 70000 0,.p (.str s)],[(70000,.bldr 124 (.p .nil))]=>some (([70000],.tup [.p (.int .i64 (s.length:Int)),.p (.plain .nilIface)]),([(70000,.bldr 124 (.arr 70001001)),(70001001,.barr 5 false s)],some (s.length<=140737488355328)))
 | _,_=>none⟩
theorem zjm:zS Tryz.prog 76 ze7:=by
 intro args ib kept r zZ ok he hok
 simp only[ze7]at he
 split at he
 .cases he
  exact⟨by kernel_rfl,zSh 0 _ _ _ _ fun _=>by rw[zP6,yZ (by rw[Nat.mul_one];exact hok)]⟩
 .cases he
  exact⟨by kernel_rfl,zSi 0 _ _ _ fun _=>by rw[zP7,yZ (by rw[Nat.mul_one];exact hok)]⟩
 .cases he
def zox:yM:=⟨[false,true],fun args ib=>match args,ib with
 | [.ref 70000 0,.p (.int .u8 c)],[(70000,.bldr 124 (.arr 70001)),(70001,.barr 5 false l)]=>some (([70000],.p (.plain .nilIface)),([(70000,.bldr 124 (.arr 70001001)),(70001001,.barr 5 false (l++[UInt8.ofNat c.toNat]))],some (l.length+1<=140737488355328)))
 | [.ref 70000 0,.p (.int .u8 c)],[(70000,.bldr 124 (.p .nil))]=>some (([70000],.p (.plain .nilIface)),([(70000,.bldr 124 (.arr 70001001)),(70001001,.barr 5 false [UInt8.ofNat c.toNat])],none))
 | _,_=>none⟩
theorem zIN:zS Tryz.prog 80 zox:=by
 intro args ib kept r zZ ok he hok
 simp only[zox]at he
 split at he
 .cases he
  exact⟨by kernel_rfl,zSj 0 _ _ _ _ fun _=>by rw[zP8,yZ (by rw[Nat.mul_one];exact hok)]⟩
 .cases he
  exact⟨by kernel_rfl,zSk 0 _ _ _ fun _=>by rw[zP9,yZ (by show 1*1<=_;decide)]⟩
 .cases he
section
open Go.RowKit Go.Lib
set_option maxHeartbeats 1000000 in
theorem zLa(b n:Nat)(w:World)(hbk:w.heap[b]?=some (.cells #[.pointer (some ⟨b,0,none⟩),.slice none 0 0] 124 (0,0)))(hn:n<=281474976710656):
 Calls Tryz.prog 169 #[.pointer (some ⟨b,0,none⟩),.int .i64 n] w fun e w'=>e=.returned (.tuple #[])/\
  ∃ cs:Array Value,cs.size<=maxLen/\w'.heap=((w.setCell ⟨b,1,none⟩ (.slice (some ⟨w.heap.size,0,none⟩) 0 cs.size)).alloc (.cells cs 5)).heap/\w'.os=w.os/\w'.tape=w.tape/\w'.output=w.output:=by
 obtain⟨cs,hrun,hle,hmax⟩:=Lib.run_makeNoZero (P:=Tryz.prog) w.drew #[3] 34 5 Tryz.underlying34 n hn
 have hw:IntKind.i64.wrap (IntKind.i64.wrap 0+(n:Int))=n:=by
  rw[IntKind.wrap_i64,IntKind.wrap_i64]
  omega
 have hcall:(callFunc 187 #[.int .i64 (IntKind.i64.wrap (IntKind.i64.wrap 0+(n:Int)))]).run Tryz.prog w.drew=.ok (.value (.slice (some ⟨w.drew.heap.size,0,none⟩) n cs.size)) (w.drew.drew.drew.alloc (.cells cs 5)):=by
  rw[hw,run_callFunc_extern Tryz.func187 (by kernel_rfl) (by kernel_rfl) (by kernel_rfl) (e:=Extern.BytealgMakeNoZero.makeNoZero #[3] #[34]) (by kernel_rfl),hrun]
  rfl
 have hlt:b<w.heap.size:=by
  rcases Nat.lt_or_ge b w.heap.size with h'|h'
  .exact h'
  .simp [Array.getElem?_eq_none h']at hbk
 have c1:w.drew.cell? ⟨b,1,none⟩=some (.slice none 0 0):=by
  have:w.drew.heap[b]?=_:=hbk
  rw[Lib.cell_of_heap this];rfl
 have c2:(w.alloc (.cells cs 5)).cell? ⟨b,1,none⟩=some (.slice none 0 0):=by
  have:(w.alloc (.cells cs 5)).heap[b]?=_:=(Lib.alloc_old w _ b hlt).trans hbk
  rw[Lib.cell_of_heap this];rfl
 have f2:(w.alloc (.cells cs 5)).frozen? ⟨b,1,none⟩=false:=by
  exact Lib.frozen_of_heap ((Lib.alloc_old w _ b hlt).trans hbk) 1
 have hcopy:∀ W:World,(Builtin.copy_ #[34,34] 3 #[.slice (some ⟨w.heap.size,0,none⟩) 0 cs.size,.slice none 0 0]).run Tryz.prog W=.ok (goInt 0) W:=
  fun W=>run_copy_none W 34 34 3 5 _ _ 0 cs.size 0 0 Tryz.underlying34 (by kernel_rfl) rfl
 clear hw
 have hfin:=hmax (by unfold maxLen;omega)
 have mixed:=Checked.mixed Tryz.checked
 go_enter Tryz.func169,Tryz.ntmps169
 go_wp2
 go_region_o
 all_goals (go_wp2;go_end0;exact⟨rfl,cs,hfin,rfl,rfl,rfl,rfl⟩)
set_option maxHeartbeats 1000000 in
theorem zLb(b n:Nat)(w w1:World)(h1n:1<=n)(hn:n<=281474976710656)
 (hcc:Calls Tryz.prog 110 #[.pointer (some ⟨b,0,none⟩)] w fun e w'=>e=.returned (.tuple #[])/\w'=w1)
 (hbk1:w1.heap[b]?=some (.cells #[.pointer (some ⟨b,0,none⟩),.slice none 0 0] 124 (0,0))):
 Calls Tryz.prog 138 #[.pointer (some ⟨b,0,none⟩),.int .i64 n] w fun e w'=>e=.returned (.tuple #[])/\
  ∃ cs:Array Value,cs.size<=maxLen/\w'.heap=((w1.setCell ⟨b,1,none⟩ (.slice (some ⟨w1.heap.size,0,none⟩) 0 cs.size)).alloc (.cells cs 5)).heap/\w'.os=w1.os/\w'.tape=w1.tape/\w'.output=w1.output:=by
 have c1:w1.cell? ⟨b,1,none⟩=some (.slice none 0 0):=by rw[Lib.cell_of_heap hbk1];rfl
 have mixed:=Checked.mixed Tryz.checked
 have c1':w1.drew.cell? ⟨b,1,none⟩=some (.slice none 0 0):=c1
 have hgr:=zLa b n w1.drew hbk1 hn
 go_enter Tryz.func138,Tryz.ntmps138
 go_wp2_with (go_at_call 110;refine hcc.mono ?_;rintro e w' ⟨rfl,rfl⟩)
 go_region_o
 all_goals go_wp2_with (go_at_call 169;refine hgr.mono ?_;rintro e w' ⟨rfl,cs,h1,h2,h3,h4,h5⟩)
 all_goals first
  | (go_end0;exact⟨rfl,cs,h1,h2,h3,h4,h5⟩)
  | (exfalso;simp_all;omega)
end
section
open Go.RowKit Go.Lib
theorem zoq{α:Type}{i a b:Nat}{x y o:α}(h:zm i [(a,x),(b,y)]=some o):(i=a/\o=x)\/(i=b/\o=y):=by
 have:=zaw h
 simp only[List.mem_cons,Prod.mk.injEq,List.not_mem_nil,or_false]at this
 exact this
theorem zey{α:Type}{i a b:Nat}{x y:α}(h:zm i [(a,x),(b,y)]≠none):i=a\/i=b:=by
 cases hl:zm i [(a,x),(b,y)]with
 | none=>exact absurd hl h
 | some o => rcases zoq hl with h | h
             .exact .inl h.1
             .exact .inr h.1
theorem zyz(n:Nat)(h1n:1<=n)(hn:n<=281474976710656):
 FnR Tryz.prog 138 [.ref 70000 0,.p (.int .i64 (n:Int))] [(70000,.bldr 124 (.p .nil))] [70000] (.tup []) [(70000,.bldr 124 (.arr 70001001)),(70001001,.barr 5 false [])]:=by
 intro γ M w vs hO hnone hM hvs
 obtain⟨b,v0,v1,hg,hh,h0,h1,h2,hm⟩:=zeP (id:=70000) hO rfl
 cases h1.p_inv
 cases hvs with
 | cons hx ht=>
  cases ht with
  | cons hy ht=>
  cases ht
  obtain⟨b',hg',rfl⟩:=hx.ref_inv
  rw[hg]at hg';cases hg'
  cases hy with|p _ _ hy=>
  cases hy with|int _ _ hi=>
  have hlt:b<w.heap.size:=hO.lo 70000 _ b (by simp[zm]) hg rfl
  have hb:Go.Am.Handed γ [(70000,.bldr 124 (.p .nil))] b:=⟨70000,.cell b,by simp[zm],hg,rfl⟩
  have hset:(w.setCell ⟨b,0,none⟩ (.pointer (some ⟨b,0,none⟩)))=w.setRow b #[.pointer (some ⟨b,0,none⟩),.slice none 0 0]:=by
   rw[setCell_eq_setRow w b 0 _ _ _ _ hh];rfl
  obtain⟨w1,hcc,hb1,hs1,ho1,hos,htp,hout⟩:∃ w1:World,(Calls Tryz.prog 110 #[.pointer (some ⟨b,0,none⟩)] w fun e w'=>e=.returned (.tuple #[])/\w'=w1)/\
   w1.heap[b]?=some (.cells #[.pointer (some ⟨b,0,none⟩),.slice none 0 0] 124 (0,0))/\w1.heap.size=w.heap.size/\(∀ c,c≠b->w1.heap[c]?=w.heap[c]?)/\w1.os=w.os/\w1.tape=w.tape/\w1.output=w.output:=by
   rcases h0 with rfl|rfl
   .refine ⟨_,zp4 b w (by rw[Lib.cell_of_heap hh];rfl) (by simp[World.shape?,hh]) (Lib.frozen_of_heap hh 0),?_⟩
    rw[hset]
    exact⟨setRow_heap w b _ _ _ _ hh,by simp,fun c hc=>setRow_other w b c _ hc,rfl,rfl,rfl⟩
   .exact ⟨w,zu8 b w (by rw[Lib.cell_of_heap hh];rfl),hh,rfl,fun _ _=>rfl,rfl,rfl,rfl⟩
  refine(zLb b n w w1 h1n hn hcc hb1).mono fun e w' ⟨he,cs,hcs,hheap,q1,q2,q3⟩=>?_
  have hrow:(w1.setCell ⟨b,1,none⟩ (.slice (some ⟨w1.heap.size,0,none⟩) 0 cs.size))=w1.setRow b #[.pointer (some ⟨b,0,none⟩),.slice (some ⟨w1.heap.size,0,none⟩) 0 cs.size]:=by
   rw[setCell_eq_setRow w1 b 1 _ _ _ _ hb1];rfl
  rw[hrow]at hheap
  have hsz1:(w1.setRow b #[.pointer (some ⟨b,0,none⟩),.slice (some ⟨w1.heap.size,0,none⟩) 0 cs.size]).heap.size=w.heap.size:=by rw[<-hs1];simp
  have hsz:w'.heap.size=w.heap.size+1:=by rw[hheap];simp[hsz1]
  have hbb:w'.heap[b]?=some (.cells #[.pointer (some ⟨b,0,none⟩),.slice (some ⟨w.heap.size,0,none⟩) 0 cs.size] 124 (0,0)):=by
   rw[hheap,Lib.alloc_old _ _ b (by rw[hsz1];exact hlt),setRow_heap w1 b _ _ _ _ hb1,hs1]
  have hnew:w'.heap[w.heap.size]?=some (.cells cs 5 (0,0)):=by
   rw[hheap,<-hsz1];exact heap_alloc_new _ _
  have hoth:∀ c,c<w.heap.size->c≠b->w'.heap[c]?=w.heap[c]?:=fun c hc hcb=>by
   rw[hheap,Lib.alloc_old _ _ c (by rw[hsz1];exact hc),setRow_other w1 b c _ hcb];exact ho1 c hcb
  have hMn:∀ o,M w.heap.size o=none:=fun o=>by
   cases hv:M w.heap.size o with
   | none=>rfl
   | some v=>have:=hM _ _ _ hv;simp[World.cell?]at this
  refine⟨_,upd γ 70001001 (some (.arr (some w.heap.size) 1 0 cs.size)),M,he,fun i hi g hgi=>?_,MLe.refl M,?_,.tup _ _ rfl (fun i hi=>absurd hi (Nat.not_lt_zero _)),⟨?_,?_,?_⟩,?_,by omega,q1.trans hos,q2.trans htp,q3.trans hout⟩
  .have:i=70000:=by simpa using hi
   subst this
   exact hgi
  .refine ⟨?_,hM.good⟩
   intro c o v hv
   have hc:c≠b:=fun e=>by subst e;rw[hm o]at hv;cases hv
   have hcl:c<w.heap.size:=by
    rcases Nat.lt_or_ge c w.heap.size with h|h
    .exact h
    .have:=hM c o v hv
     simp[World.cell?,Array.getElem?_eq_none h]at this
   rw[World.cell?_of_block (w:=w) (hoth c hcl hc)];exact hM c o v hv
  .intro i o hi
   rcases zoq hi with⟨rfl,rfl⟩|⟨rfl,rfl⟩
   .exact ⟨b,_,_,hg,hbb,.inr rfl,.arr 70001001 (some w.heap.size) 1 0 cs.size rfl,rfl,hm⟩
   .refine ⟨some w.heap.size,cs.size,rfl,⟨⟨rfl,.inr ⟨w.heap.size,cs.size,cs,rfl,Nat.zero_le _,hnew,Nat.zero_le _,hcs,by simp,by simp⟩⟩,fun v hv=>(by cases hv),Nat.zero_le _,fun g hgg=>?_⟩⟩
    cases hgg
    exact fun o=>by rw[hMn o];rfl
  .intro i j g g' c hi hj hgi hgj hgc hgc'
   rcases zey hi with rfl|rfl <;> rcases zey hj with rfl|rfl
   .rfl
   .rw [show upd γ 70001001 (some (.arr (some w.heap.size) 1 0 cs.size)) 70000=γ 70000 from rfl,hg]at hgi
    cases hgi;cases hgj;cases hgc;cases hgc'
    exact absurd hlt (Nat.lt_irrefl _)
   .rw [show upd γ 70001001 (some (.arr (some w.heap.size) 1 0 cs.size)) 70000=γ 70000 from rfl,hg]at hgj
    cases hgi;cases hgj;cases hgc;cases hgc'
    exact absurd hlt (Nat.lt_irrefl _)
   .rfl
  .intro i g c hi hgi hgc
   rcases zey hi with rfl|rfl
   .rw [show upd γ 70001001 (some (.arr (some w.heap.size) 1 0 cs.size)) 70000=γ 70000 from rfl,hg]at hgi
    cases hgi;cases hgc
    exact⟨.inr hb,by omega⟩
   .cases hgi;cases hgc
    exact⟨.inl (Nat.le_refl _),by omega⟩
  .intro c hc hno
   exact⟨hoth c hc fun e=>hno (by rw[e];exact hb),rfl⟩
def zuj:yM:=⟨[false,true],fun args ib=>match args,ib with
 | [.ref 70000 0,.p (.int .i64 n)],[(70000,.bldr 124 (.p .nil))]=>some (([70000],.tup []),([(70000,.bldr 124 (.arr 70001001)),(70001001,.barr 5 false [])],some (1<=n/\n<=281474976710656)))
 | _,_=>none⟩
theorem zOy:zS Tryz.prog 138 zuj:=by
 intro args ib kept r zZ ok he hok
 simp only[zuj]at he
 split at he
 .rename_i n
  cases he
  obtain⟨h1,h2⟩:1<=n/\n<=281474976710656:=hok
  obtain⟨n,rfl⟩:=Int.eq_ofNat_of_zero_le (show(0:Int)<=n by omega)
  exact⟨by kernel_rfl,zyz n (by omega) (by omega)⟩
 .cases he
end
def zu7(s:List UInt8)(c:Int):Int:=((s.count c.toNat.toUInt8:Nat):Int)
def zoV:List AV->Option (AV×Option Prop)
 | [.p (.str s),.p (.int .u8 c)]=>some (.p (.int .i64 (zu7 s c)),none)
 | _=>none
theorem zJc:zjY Tryz.prog 189 zoV:=by
 intro zs r ok h hok M w vs hM hvs
 unfold zoV at h
 split at h
 .rename_i s c
  cases h
  cases hvs with
  | cons h1 h2=>cases h2 with
   | cons h2 h3=>
    cases h3
    cases h1 with|p _ _ h1=>
    cases h2 with|p _ _ h2=>
    cases h1 with|str _ hs=>
    cases h2 with|int _ _ hc=>
    refine⟨.int .i64 (zu7 s c),?_,.p _ _ (.int _ _ ?_)⟩
    .rw [run_callFunc_extern (fn:=Tryz.f189) (e:=Extern.BytealgCount.count) (by kernel_rfl) (by kernel_rfl) (by kernel_rfl) (by kernel_rfl) (by kernel_rfl)]
     rw[Lib.run_countString];rfl
    .have h1:=List.count_le_length (a:=c.toNat.toUInt8) (l:=s)
     exact zd6 (by unfold maxLen at hs;unfold zh zu7;omega)
 .cases h
def Gcnt:=mkG [(189,zoV)] [] 34 [] [] []
def zTe(F:Nat)(s:List UInt8)(c:UInt8):=zF Gcnt Tryz.f171 F [pS s,.p (.str [c])]
theorem zQr(F s c):letI A:=(0:Int);zTe F s c=ze (0<=A/\A<([c].length:Int)) (some (.p (.int .i64 (zu7 s (([c].getD A.toNat 0).toNat:Int))),[])):=by kernel_rfl
theorem zSz(F s c r):IsP 171 (zTe F s c) [.p (.str s),.p (.str [c])] r:=zG Gcnt rfl ⟨zJc.any,trivial⟩
theorem zSJ(s:List UInt8)(c:UInt8):zTe 0 s c=some (.p (.int .i64 (zu7 s (c.toNat:Int))),[]):=by
 rw[zQr]
 exact zd (by simp) rfl
def zz1:List AV->Option (AV×Option Prop)
 | [.p (.str s),.p (.str [c])]=>some (.p (.int .i64 (zu7 s (c.toNat:Int))),none)
 | _=>none
theorem zRU:zn Tryz.prog 171 zz1:=by
 intro zs r ok he hok
 unfold zz1 at he
 split at he
 .cases he;exact⟨by kernel_rfl,zSz 0 _ _ _ fun hx=>zSJ _ _⟩
 .cases he
def zGZ:=mkG [(101,zzX),(171,zz1)] [(76,ze7),(78,zfd),(138,zuj)] 104 [] [([1,1,1],⟨[0,1,2,3],[]⟩),([0,1,0,1,0,1,1,1,1,1,1],⟨[0,1,2,10,11,52,53],[⟨.slot 10,10,.cells []⟩,⟨.cell 10 1,11001,(.barr 5 false [])⟩]⟩),([1,1,0,0,1,1,0,0,1,0,1,0,1,1,1,1,1,1],⟨[0,1,2,10,12,52,53],[⟨.slot 10,10,.cells []⟩,⟨.cell 10 1,11001,(.barr 5 false [])⟩]⟩),([1,1,1,1,1,1,1],⟨[0,10,11],[⟨.slot 10,10,.cells []⟩,⟨.cell 10 1,11001,(.barr 5 false [])⟩]⟩)] [([0,1,1,1,1],[10]),([0,1,0,0,1,1,0,0,1,0,1,0,1,1,1,1,1,1],[4]),([0,1,1,0,0,1,1,0,0,1,0,1,0,1,1,1,1,1,1],[1]),([0,1,1,1,1,1,1,1],[3]),([0,1,1,1,1,1,1,1,1],[0])]
def zCX(F:Nat)(s:List UInt8)(c d:UInt8)(vi1:Int):=zx zGZ Tryz.f145 F [] [1,1,1] [(0,pS s),(1,.p (.str [c])),(2,.p (.str [d])),(3,pI vi1)] []
def zwg(F f1:Nat)(s:List UInt8)(c d:UInt8)(vi2 vi1 vi3:Int)(vb4:List UInt8):=zH zGZ Tryz.f145 F [] [1,1,1,1,1,1,0,1,0,1,0] f1 [(0,pS s),(1,.p (.str [c])),(2,.p (.str [d])),(10,.ref 10 0),(11,pI vi2),(52,pI vi1),(53,pI vi3)] [(10,.bldr 124 (.arr 11001)),(11001,.barr 5 false vb4)]
def zNg(F f1:Nat)(s:List UInt8)(c d:UInt8)(vi5 vi1 vi3:Int)(vb6:List UInt8):=zx zGZ Tryz.f145 F [f1] [1,1,1,1,1,1,0,1,0,1,0,0,1,1,0,0,1,1] [(0,pS s),(1,.p (.str [c])),(2,.p (.str [d])),(10,.ref 10 0),(12,pI vi5),(52,pI vi1),(53,pI vi3)] [(10,.bldr 124 (.arr 11001)),(11001,.barr 5 false vb6)]
def zNf(F:Nat)(s:List UInt8)(vi7:Int)(vb8:List UInt8):=zx zGZ Tryz.f145 F [] [1,1,1,1,1,1,1] [(0,pS s),(10,.ref 10 0),(11,pI vi7)] [(10,.bldr 124 (.arr 11001)),(11001,.barr 5 false vb8)]
def zS3(F:Nat)(s:List UInt8)(c d:UInt8):=zF zGZ Tryz.f145 F [pS s,.p (.str [c]),.p (.str [d]),pI (-1:Int)]
theorem zHM(F s c d vi1):letI B:=(1:Int);letI A:=(s.length:Int)+(vi1*(B-B));zCX F s c d vi1=ze (zh (B-B)) (ze (zh (vi1*(B-B))) (ze (zh A) (ze (1<=A/\A<=281474976710656) (zwg F F s c d 0 vi1 0 ([]:List UInt8))))):=by kernel_rfl
theorem ztB(F f1 s c d vi2 vi1 vi3 vb4):letI A:=vi2+(ixS (s.drop vi2.toNat) (c.toNat:Int));letI B:=(s.take A.toNat).drop vi2.toNat;letI C:=(s.length:Int);zwg F (f1+1) s c d vi2 vi1 vi3 vb4=cond (decide (vi3<vi1)) (ze (0<=vi2/\vi2<=C) (ze (zh A) (ze (0<=vi2/\vi2<=A/\A<=C) (ze (vb4.length+B.length<=140737488355328) (zNg F f1 s c d A vi1 vi3 (vb4++B)))))) (zNf F s vi2 vb4):=by kernel_rfl
theorem zHL(F f1 s c d vi5 vi1 vi3 vb6):zNg F f1 s c d vi5 vi1 vi3 vb6=ze (vb6.length+[d].length<=140737488355328) (ze (zh (vi5+1)) (ze (zh (vi3+1)) (zwg F f1 s c d (vi5+1) vi1 (vi3+1) (vb6++[d])))):=by kernel_rfl
theorem zHK(F s vi7 vb8):letI A:=s.drop vi7.toNat;zNf F s vi7 vb8=ze (0<=vi7/\vi7<=(s.length:Int)) (ze (vb8.length+A.length<=140737488355328) (some (.p (.str (vb8++A)),[]))):=by kernel_rfl
theorem zQd(F s c d):letI A:=zu7 s (c.toNat:Int);zS3 F s c d=cond (([c]==[d])||false) (some (.p (.str s),[])) (cond (A==0) (some (.p (.str s),[])) (cond (true||(decide (A<(-1:Int)))) (zCX F s c d A) (zCX F s c d (-1:Int)))):=letI A:=(!true)=true;Eq.trans (by kernel_rfl) (nI ((!([c]==[d]))=true) (nN ([c]==[d]) (zj rfl (zj rfl (nI A (nI A (nN true rfl)))))))
theorem zSo(F s c d r):IsP 145 (zS3 F s c d) [.p (.str s),.p (.str [c]),.p (.str [d]),.p (.int .i64 (-1:Int))] r:=zG zGZ rfl ⟨zRQ.any,zRU.any,trivial⟩ (hr:=⟨zjm,zjp,zOy,trivial⟩)
def zb5(s:List UInt8)(c d:UInt8):List UInt8:=s.map fun x=>if x=c then d else x
theorem zpc{s:List UInt8}{c d:UInt8}(h:s.count c=0):zb5 s c d=s:=by
 unfold zb5
 rw[List.count_eq_zero]at h
 induction s with
 | nil=>rfl
 | cons x r ih=>
  simp only[List.mem_cons,not_or]at h
  rw[List.map_cons,if_neg (fun e=>h.1 e.symm),ih h.2]
theorem zxJ(c:UInt8):∀ {r:List UInt8} {k:Nat},r.count c=k+1->∃ p q,r=p++c::q/\p.count c=0/\q.count c=k/\Lib.indexByte r c=p.length
 | [],k,h=>by simp at h
 | x::r,k,h=>by
  by_cases e:x=c
  .subst e
   refine⟨[],r,rfl,rfl,by simpa using h,?_⟩
   simp[Lib.indexByte]
  .rw [List.count_cons_of_ne e]at h
   obtain⟨p,q,h1,h2,h3,h4⟩:=zxJ c h
   refine⟨x::p,q,by rw[h1];rfl,by rw[List.count_cons_of_ne e];exact h2,h3,?_⟩
   have hne:¬ (x==c)=true:=by simpa using e
   rw[Lib.indexByte,if_neg hne,h4,if_neg (by simp)]
   simp only[List.length_cons];omega
theorem zNV(a b:List UInt8)(c d:UInt8):zb5 (a++b) c d=zb5 a c d++zb5 b c d:=by simp[zb5]
theorem zHJ(F:Nat)(s:List UInt8)(c d:UInt8)(hs:s.length<=1000000)(K:Nat):∀ (k f start i:Nat) (acc:List UInt8),(s.drop start).count c=k->k<f->start<=s.length->i+k=K->K<=1000000->acc.length<=start->
 zwg F f s c d (start:Int) (K:Int) (i:Int) acc=some (.p (.str (acc++zb5 (s.drop start) c d)),[]):=by
 intro k
 induction k with
 | zero=>
  intro f start i acc hk hf hst hi hK ha
  cases f with
  | zero=>omega
  | succ f=>
   rw[ztB]
   refine zea ?_
   rw[zHK]
   refine zy ?_
   rw[show((start:Int)).toNat=start from rfl]
   refine zd (by simp;omega) ?_
   rw[zpc hk]
 | succ k ih=>
  intro f start i acc hk hf hst hi hK ha
  cases f with
  | zero=>omega
  | succ f=>
   obtain⟨p,q,h1,h2,h3,h4⟩:=zxJ c hk
   have hix:ixS (s.drop start) (c.toNat:Int)=(p.length:Int):=by unfold ixS;rw[u8c];exact h4
   have hlen:s.length=start+p.length+1+q.length:=by
    have:=congrArg List.length h1
    simp at this;omega
   have htk:(s.take (start+p.length)).drop start=p:=by
    rw[List.drop_take,Nat.add_sub_cancel_left,h1,List.take_left'];rfl
   have hq:s.drop (start+p.length+1)=q:=by
    rw[Nat.add_assoc,<-List.drop_drop,h1]
    rw[List.drop_append,List.drop_eq_nil_of_le (by omega)]
    simp
   have e1:((start:Int)+(p.length:Int)).toNat=start+p.length:=by omega
   rw[ztB]
   refine zd9 ?_
   refine zy ?_
   rw[show((start:Int)).toNat=start from rfl,hix]
   refine zy ?_
   refine zy ?_
   rw[e1,htk]
   refine zy ?_
   rw[zHL]
   refine zd (by simp;omega) ?_
   refine zy ?_
   refine zy ?_
   have e2:(start:Int)+(p.length:Int)+1=((start+p.length+1:Nat):Int):=by omega
   have e3:(i:Int)+1=((i+1:Nat):Int):=by omega
   rw[e2,e3,ih f (start+p.length+1) (i+1) (acc++p++[d]) (by rw[hq];exact h3) (by omega) (by omega) (by omega) hK (by simp;omega)]
   rw[hq,h1,zNV,zpc h2]
   congr 4
   simp[zb5]
theorem zRE(s:List UInt8)(c d:UInt8)(hs:s.length<=1000000):zS3 (s.length+1) s c d=some (.p (.str (zb5 s c d)),[]):=by
 rw[zQd]
 by_cases hcd:c=d
 .refine zi (by simp[hcd]) ?_
  subst hcd
  have:zb5 s c c=s:=by
   unfold zb5
   conv=>rhs;rw[<-List.map_id s]
   exact List.map_congr_left fun x _=>by split <;> simp_all
  rw[this]
 .refine zg (by simp[hcd]) ?_
  have hc:zu7 s (c.toNat:Int)=(s.count c:Int):=by unfold zu7;rw[u8c]
  rw[hc]
  have hle:=List.count_le_length (a:=c) (l:=s)
  by_cases h0:s.count c=0
  .refine zi (by simp[h0]) ?_
   rw[zpc h0]
  .refine zg (by simpa using h0) (zi rfl ?_)
   rw[zHM]
   refine zy ?_
   refine zy ?_
   refine zy ?_
   refine zy ?_
   exact zHJ _ s c d hs (s.count c) (s.count c) (s.length+1) 0 0 [] rfl (by omega) (by omega) (by omega) (by omega) (by simp)
def zzT:List AV->Option (AV×Option Prop)
 | [.p (.str s),.p (.str [c]),.p (.str [d]),.p (.int .i64 (-1:Int))]=>some (.p (.str (zb5 s c d)),some (s.length<=1000000))
 | _=>none
theorem zRN:zn Tryz.prog 145 zzT:=by
 intro zs r ok he hok
 unfold zzT at he
 split at he
 .cases he;exact⟨by kernel_rfl,zSo (_) _ _ _ _ fun hx=>zRE _ _ _ hok⟩
 .cases he
def zQW:=mkG [(145,zzT)] [] 11 [] [] []
def zMl(F:Nat)(s:List UInt8)(c d:UInt8):=zF zQW Tryz.f116 F [pS s,.p (.str [c]),.p (.str [d])]
theorem zMk(F s c d):zMl F s c d=ze (s.length<=1000000) (some (.p (.str (zb5 s c d)),[])):=by kernel_rfl
theorem zPb(F s c d r):IsP 116 (zMl F s c d) [.p (.str s),.p (.str [c]),.p (.str [d])] r:=zG zQW rfl ⟨zRN.any,trivial⟩
theorem zNU(s:List UInt8)(c d:UInt8)(hs:s.length<=1000000):zMl 0 s c d=some (.p (.str (zb5 s c d)),[]):=by
 rw[zMk];exact yZ hs
def zt9:List AV->Option (AV×Option Prop)
 | [.p (.str s),.p (.str [c]),.p (.str [d])]=>some (.p (.str (zb5 s c d)),some (s.length<=1000000))
 | _=>none
theorem zOm:zn Tryz.prog 116 zt9:=by
 intro zs r ok he hok
 unfold zt9 at he
 split at he
 .cases he;exact⟨by kernel_rfl,zPb 0 _ _ _ _ fun hx=>zNU _ _ _ hok⟩
 .cases he
def Ghpl:=mkG [] [] 18 [] [] []
def zTa(F:Nat)(s p:List UInt8):=zF Ghpl Tryz.f143 F [pS s,pS p]
theorem zQo(F s p):letI A:=(p.length:Int);letI B:=decide ((s.length:Int)>=A);zTa F s p=ze (B=true->0<=A/\A<=(s.length:Int)) (some (.p (.bool (B&&((s.take A.toNat)==p))),[])):=letI A:=(decide ((s.length:Int)>=(p.length:Int)))=true;Eq.trans (by kernel_rfl) (nI A (nI A (nI A (zf (nI A (nI A (nI A rfl)))))))
theorem zSw(F s p r):IsP 143 (zTa F s p) [.p (.str s),.p (.str p)] r:=zG Ghpl rfl trivial
def zbD(s p:List UInt8):Bool:=s.take p.length==p
theorem zSc(s p:List UInt8):zTa 0 s p=some (.p (.bool (zbD s p)),[]):=by
 rw[zQo]
 refine zd (fun h=>⟨by omega,by simpa using h⟩) ?_
 rw[show((p.length:Int)).toNat=p.length from rfl]
 by_cases h:p.length<=s.length
 .rw [show decide ((s.length:Int)>=(p.length:Int))=true by simpa using h];rfl
 .rw [show decide ((s.length:Int)>=(p.length:Int))=false by simpa using h,Bool.false_and]
  have:zbD s p=false:=by
   unfold zbD
   rw[beq_eq_false_iff_ne]
   intro e
   have:=congrArg List.length e
   simp at this;omega
  rw[this]
def zzZ:List AV->Option (AV×Option Prop)
 | [.p (.str s),.p (.str p)]=>some (.p (.bool (zbD s p)),none)
 | _=>none
theorem zRS:zn Tryz.prog 143 zzZ:=by
 intro zs r ok he hok
 unfold zzZ at he
 split at he
 .cases he;exact⟨by kernel_rfl,zSw 0 _ _ _ fun hx=>zSc _ _⟩
 .cases he
def Ghp:=mkG [(143,zzZ)] [] 8 [] [] []
def Fhp(F:Nat)(s p:List UInt8):=zF Ghp Tryz.f112 F [pS s,pS p]
theorem zTb(F s p):Fhp F s p=some (.p (.bool (zbD s p)),[]):=by kernel_rfl
theorem zTP(F s p r):IsP 112 (Fhp F s p) [.p (.str s),.p (.str p)] r:=zG Ghp rfl ⟨zRS.any,trivial⟩
theorem zTL(s p:List UInt8):Fhp 0 s p=some (.p (.bool (zbD s p)),[]):=by rw[zTb]
def zId:List AV->Option (AV×Option Prop)
 | [.p (.str s),.p (.str p)]=>some (.p (.bool (zbD s p)),none)
 | _=>none
theorem zTA:zn Tryz.prog 112 zId:=by
 intro zs r ok he hok
 unfold zId at he
 split at he
 .cases he;exact⟨by kernel_rfl,zTP 0 _ _ _ fun hx=>zTL _ _⟩
 .cases he
end Go.Proofs.YtampckbjinodgaaGreatDoor
