/-
  Lifted functions, and facts about them.
-/
import Derived.Test.YtampckbjinodgaaGreatDoorAmC
import Derived.Test.YtampckbjinodgaaGreatDoorRows
set_option linter.unusedVariables false
noncomputable section
/-! What holds by itself may be struck out of a text. -/
namespace Go.Am
open Go Go.RowKit
theorem zf{p:Prop}{x y:Option Ans}(h:x=y):ze p x=ze p y:=by rw[h]
theorem zj{b:Bool}{x x' y y':Option Ans}(h:x=x')(k:y=y'):cond b x y=cond b x' y':=by rw[h,k]
theorem zl{p:Prop}{x y:Option Ans}(hp:p)(h:x=y):ze p x=y:=by rw[yZ hp,h]
theorem zvh{x y:Option Ans}(h:x=y):ztg x x=y:=by rw[zBj,h]
theorem nI(p:Prop){x y:Option Ans}(h:x=y):ze (p->p) x=y:=zl id h
theorem nN(b:Bool){x y:Option Ans}(h:x=y):ze (b=false->(!b)=true) x=y:=zl (fun q=>zen q) h
theorem zy{p:Prop}{x r:Option Ans}(k:x=r)(h:p:=by first|omega|(unfold zh;omega)|(simp only[List.length_cons,List.length_nil];omega)|(simp;omega)|simp):ze p x=r:=zd h k
theorem zd9{b:Bool}{x y r:Option Ans}(k:x=r)(h:b=true:=by first|omega|(unfold zh;omega)|(simp only[List.length_cons,List.length_nil];omega)|(simp;omega)|simp):cond b x y=r:=zi h k
theorem zea{b:Bool}{x y r:Option Ans}(k:y=r)(h:b=false:=by first|omega|(unfold zh;omega)|(simp only[List.length_cons,List.length_nil];omega)|(simp;omega)|simp):cond b x y=r:=zg h k
end Go.Am
namespace Go.Proofs.YtampckbjinodgaaGreatDoor
open Go Go.Am
abbrev HasA(A:List AV):Prop:=∃ M vs,zB γ0 M A vs
abbrev HasR(A:List AV)(B:List (Nat×AObj)):Prop:=∃ γ M w vs,zB γ M A vs/\zhW γ M w (fun i=>zm i B) (fun b=>b<w.heap.size)
abbrev IsP(f:FuncId)(x:Option Ans)(A:List AV)(r:AV):Prop:=(HasA A->x=some (r,[]))->FnP Tryz.prog f A r
abbrev IsR(f:FuncId)(x:Option Ans)(A:List AV)(B:List (Nat×AObj))(kept:List Nat)(r:AV)(os:List (Nat×AObj)):Prop:=(HasR A B->x=some (r,os))->FnR Tryz.prog f A B kept r os
def pI(x:Int):AV:=.p (.int .i64 x)
def pS(x:List UInt8):AV:=.p (.str x)
def pB(x:Bool):AV:=.p (.bool x)
def pL(k:Nat)(c:Ec)(x:List (Elt c)):AV:=.p (.list k (.dat c x))
def zH(G:Cfg)(fn:Func):=zcI G (yw fn) (kP Tryz.prog fn.results.toList)
def zx(G:Cfg)(fn:Func):=zcv G (yw fn) (kP Tryz.prog fn.results.toList)
def mkG(l:List (Nat×(List AV->Option (AV×Option Prop))))(lr:List (Nat×yM))(nt:Nat)(fx:List Nat)(cs:List (List Nat×Cut))(rs:List (List Nat×List Nat)):Cfg:=⟨Tryz.prog,zh1 l,zlM lr,nt,fx,cs,rs⟩
section
variable {f:FuncId}{fn:Func}{args:List AV}{r:AV}{ib:List (Nat×AObj)}{kept:List Nat}{os:List (Nat×AObj)}{l:List (Nat×(List AV->Option (AV×Option Prop)))}{lr:List (Nat×yM)}{nt:Nat}{cs:List (List Nat×Cut)}{rs:List (List Nat×List Nat)}
theorem zG(G:Cfg){F:Nat}(hG:G=mkG l lr nt [] cs rs)(he:All (l.map fun p=>zjZ Tryz.prog p.1 p.2))(hr:All (lr.map fun p=>zS Tryz.prog p.1 p.2):=by trivial)
 (hf:Tryz.prog.funcs[f]?=some fn:=by kernel_rfl) (hb:(fn.body.isSome,Nat.ble args.length fn.ntmps,Nat.beq nt fn.ntmps)=(true,true,true):=by kernel_rfl)
 (h:HasA args->zF G fn F args=some (r,[])):FnP Tryz.prog f args r:=by
 subst hG;exact zQj _ F rfl (zbQ he) (zdi hr) (Checked.mixed Tryz.checked) hf hb rfl h
theorem zb9(G:Cfg)(c:Cut)(ids:List Nat){F:Nat}(hG:G=mkG l lr nt kept cs rs)(he:All (l.map fun p=>zjZ Tryz.prog p.1 p.2))(hr:All (lr.map fun p=>zS Tryz.prog p.1 p.2):=by trivial)
 (hf:Tryz.prog.funcs[f]?=some fn:=by kernel_rfl) (hb:(fn.body.isSome,Nat.ble args.length fn.ntmps,Nat.beq nt fn.ntmps)=(true,true,true):=by kernel_rfl)
 (h:HasR args ib->zam G fn c ids F args ib=some (r,os)):FnR Tryz.prog f args ib kept r os:=by
 subst hG;exact zQi _ c ids F rfl (zbQ he) (zdi hr) (Checked.mixed Tryz.checked) hf hb rfl h
end
end Go.Proofs.YtampckbjinodgaaGreatDoor
namespace Go.Proofs.YtampckbjinodgaaGreatDoor
open Go Go.Am
theorem zxk{n:Int}(h0:-1000000000000<=n)(h1:n<=1000000000000):zh n:=by unfold zh;omega
theorem yg{s:List UInt8}{i:Nat}{c:UInt8}{r:List UInt8}(h:s.drop i=c::r):s.getD i 0=c/\s.drop (i+1)=r/\s.length=i+1+r.length:=by
 have h1:s[i]?=some c:=by
  have:(s.drop i)[0]?=some c:=by rw[h];rfl
  simpa using this
 refine⟨by rw[List.getD_eq_getElem?_getD,h1];rfl,?_,?_⟩
 .have:(s.drop i).drop 1=r:=by rw[h];rfl
  simpa[List.drop_drop]using this
 .have:=congrArg List.length h
  simp at this
  have:i<s.length:=by
   rcases Nat.lt_or_ge i s.length with h'|h'
   .exact h'
   .rw [List.drop_of_length_le h']at h;cases h
  omega
theorem zcP{c d:UInt8}:((c.toNat:Int)=(d.toNat:Int))↔c=d:=by
 constructor
 .intro h;exact UInt8.toNat_inj.1 (by omega)
 .rintro rfl;rfl
theorem zcO(x:Nat):UInt8.ofNat (IntKind.u8.wrap (x:Int)).toNat=UInt8.ofNat x:=by
 rw[zDa]
 have:((x:Int) % 256).toNat=x % 256:=by omega
 rw[this]
 apply UInt8.toNat_inj.1
 rw[UInt8.toNat_ofNat',UInt8.toNat_ofNat']
 omega
def zsr(g:List UInt8->List UInt8):List AV->Option (AV×Option Prop)
 | [.p (.str s)]=>some (.p (.str (g s)),some (s.length<=1000000))
 | _=>none
theorem zje{f:FuncId}{g:List UInt8->List UInt8}(hc:zdE Tryz.prog f=true)(h:∀ s,s.length<=1000000->FnP Tryz.prog f [.p (.str s)] (.p (.str (g s)))):zn Tryz.prog f (zsr g):=by
 intro zs r ok he hok
 unfold zsr at he
 split at he
 .cases he;exact⟨hc,h _ hok⟩
 .cases he
def zLz:=mkG [] [] 19 [] [] []
def zMB(F:Nat)(c:Int):=zF zLz Tryz.f170 F [pS ([]:List UInt8),.p (.int .u8 c)]
theorem zHh(F c):zMB (F+1) c=ze (zh ((0:Int)-(1:Int))) (some (.p (.int .i64 (-1:Int)),[])):=by kernel_rfl
theorem zJ6(F c r):IsP 170 (zMB F c) [.p (.str ([]:List UInt8)),.p (.int .u8 c)] r:=zG zLz rfl trivial
def zoJ:List AV->Option (AV×Option Prop)
 | [.p (.str []),.p (.int .u8 c)]=>some (.p (.int .i64 (-1)),none)
 | _=>none
theorem zIZ:zn Tryz.prog 170 zoJ:=by
 intro zs r ok he hok
 unfold zoJ at he
 split at he
 .cases he;exact⟨by kernel_rfl,zJ6 1 _ _ fun _=>by rw[zHh];exact zd (by unfold zh;omega) rfl⟩
 .cases he
def zQZ:=mkG [(170,zoJ)] [] 8 [] [] []
def zRf(F:Nat)(c:Int):=zF zQZ Tryz.f139 F [pS ([]:List UInt8),.p (.int .u8 c)]
theorem zMD(F c):zRf F c=some (.p (.int .i64 (-1:Int)),[]):=by kernel_rfl
theorem zPi(F c r):IsP 139 (zRf F c) [.p (.str ([]:List UInt8)),.p (.int .u8 c)] r:=zG zQZ rfl ⟨zIZ.any,trivial⟩
def zue:List AV->Option (AV×Option Prop)
 | [.p (.str []),.p (.int .u8 c)]=>some (.p (.int .i64 (-1)),none)
 | _=>none
theorem zOr:zn Tryz.prog 139 zue:=by
 intro zs r ok he hok
 unfold zue at he
 split at he
 .cases he;exact⟨by kernel_rfl,zPi 0 _ _ fun _=>by rw[zMD]⟩
 .cases he
def zEo:=mkG [(139,zue)] [] 17 [] [] []
def zEy(F:Nat) :=zF zEo Tryz.f107 F [pS ([]:List UInt8)]
theorem zCs(F):letI A:=([]:List UInt8);zEy F =some (.tup [.p (.str A),.p (.str A)],[]):=by kernel_rfl
theorem zGt(F r):IsP 107 (zEy F ) [.p (.str ([]:List UInt8))] r:=zG zEo rfl ⟨zOr.any,trivial⟩
def zlB:List AV->Option (AV×Option Prop)
 | [.p (.str [])]=>some (.tup [.p (.str []),.p (.str [])],none)
 | _=>none
theorem zFL:zn Tryz.prog 107 zlB:=by
 intro zs r ok he hok
 unfold zlB at he
 split at he
 .cases he;exact⟨by kernel_rfl,zGt 0 _ fun _=>by rw[zCs]⟩
 .cases he
def zLB:=mkG [] [] 75 [] [] []
def zMG(F:Nat) :=zF zLB Tryz.f106 F [.p .nil,pS ([]:List UInt8)]
theorem zHj(F):zMG F =some (.p (.str ([]:List UInt8)),[]):=by kernel_rfl
theorem zJ8(F r):IsP 106 (zMG F ) [.p .nil,.p (.str ([]:List UInt8))] r:=zG zLB rfl trivial
def zoL:List AV->Option (AV×Option Prop)
 | [.p .nil,.p (.str [])]=>some (.p (.str []),none)
 | _=>none
theorem zI1:zn Tryz.prog 106 zoL:=by
 intro zs r ok he hok
 unfold zoL at he
 split at he
 .cases he;exact⟨by kernel_rfl,zJ8 0 _ fun _=>by rw[zHj]⟩
 .cases he
def rd0:AObj:=.cells [.p (.str []),.p (.int .i64 0),.p .nil,.p (.str []),.p (.bool false),.p .nil]
def zLJ:=mkG [] [] 11 [70000] [] []
def zM0(F:Nat) :=zam zLJ Tryz.f72 ⟨[],[⟨.fix 70000,70000,.cells []⟩]⟩ [70000] F [.ref 70000 0] [(70000,.cells [pS ([]:List UInt8),pI 0,.p .nil,pS ([]:List UInt8),pB false,.p .nil])]
theorem zHw(F):letI A:=([]:List UInt8);zM0 F =some (.tup [],[(70000,.cells [.p (.str A),.p (.int .i64 0),.p .nil,.p (.str A),.p (.bool false),.p .nil])]):=by kernel_rfl
theorem zKl(F r os):IsR 72 (zM0 F ) [.ref 70000 0] [(70000,.cells [.p (.str ([]:List UInt8)),.p (.int .i64 0),.p .nil,.p (.str ([]:List UInt8)),.p (.bool false),.p .nil])] [70000] r os:=zb9 zLJ ⟨[],[⟨.fix 70000,70000,.cells []⟩]⟩ [70000] rfl trivial
def zoW:yM:=⟨[false],fun args ib=>match args,ib with
 | [.ref 70000 0],[(70000,.cells [.p (.str []),.p (.int .i64 0),.p .nil,.p (.str []),.p (.bool false),.p .nil])]=>some (([70000],.tup []),([(70000,rd0)],none))
 | _,_=>none⟩
theorem zJd:zS Tryz.prog 72 zoW:=by
 intro args ib kept r zZ ok he hok
 simp only[zoW]at he
 split at he
 .cases he;exact⟨by kernel_rfl,zKl 0 _ _ fun _=>by rw[zHw];rfl⟩
 .cases he
def zLr:=mkG [(106,zoL),(107,zlB)] [(72,zoW)] 55 [70000] [] [([1,1,1],[1])]
def zL1(F:Nat) :=zam zLr Tryz.f73 ⟨[],[⟨.fix 70000,70000,.cells []⟩]⟩ [70000] F [.ref 70000 0] [(70000,.cells [pS ([]:List UInt8),pI 0,.p .nil,pS ([]:List UInt8),pB false,.p .nil])]
theorem zG3(F):letI A:=([]:List UInt8);zL1 F =some (.tup [],[(70000,.cells [.p (.str A),.p (.int .i64 0),.p .nil,.p (.str A),.p (.bool false),.p .nil])]):=letI A:=([]:List UInt8);letI B:=(!(A != A))=true;Eq.trans (by kernel_rfl) (nI B (nI B (nN (A != A) rfl)))
theorem zJV(F r os):IsR 73 (zL1 F ) [.ref 70000 0] [(70000,.cells [.p (.str ([]:List UInt8)),.p (.int .i64 0),.p .nil,.p (.str ([]:List UInt8)),.p (.bool false),.p .nil])] [70000] r os:=zb9 zLr ⟨[],[⟨.fix 70000,70000,.cells []⟩]⟩ [70000] rfl ⟨zI1.any,zFL.any,trivial⟩ (hr:=⟨zJd,trivial⟩)
def zoB:yM:=⟨[false],fun args ib=>match args,ib with
 | [.ref 70000 0],[(70000,.cells [.p (.str []),.p (.int .i64 0),.p .nil,.p (.str []),.p (.bool false),.p .nil])]=>some (([70000],.tup []),([(70000,rd0)],none))
 | _,_=>none⟩
theorem zIQ:zS Tryz.prog 73 zoB:=by
 intro args ib kept r zZ ok he hok
 simp only[zoB]at he
 split at he
 .cases he;exact⟨by kernel_rfl,zJV 0 _ _ fun _=>by rw[zG3];rfl⟩
 .cases he
def zEp:=mkG [] [(73,zoB)] 153 [] [] [([0,1,1,1],[1])]
def zEz(F:Nat) :=zF zEp Tryz.f46 F [pS ([]:List UInt8)]
theorem zCv(F):zEz (F+1) =some (.p .nil,[]):=by kernel_rfl
theorem zGu(F r):IsP 46 (zEz F ) [.p (.str ([]:List UInt8))] r:=zG zEp rfl trivial (hr:=⟨zIQ,trivial⟩)
def zlC:List AV->Option (AV×Option Prop)
 | [.p (.str [])]=>some (.p .nil,none)
 | _=>none
theorem zFM:zn Tryz.prog 46 zlC:=by
 intro zs r ok he hok
 unfold zlC at he
 split at he
 .cases he;exact⟨by kernel_rfl,zGu 1 _ fun _=>by rw[zCv]⟩
 .cases he
def zQY:=mkG [] [] 7 [] [] []
def zMy(F:Nat)(x:Int):=zF zQY Tryz.f111 F [pI x]
theorem zMx(F x):zMy F x=some (.p (.int .u8 (IntKind.u8.wrap (zO .or .i64 (128:Int) (zO .and .i64 x 63)))),[]):=by kernel_rfl
theorem zPg(F x r):IsP 111 (zMy F x) [.p (.int .i64 x)] r:=zG zQY rfl trivial
def zpu(r:Int):UInt8:=UInt8.ofNat (128+r.toNat % 64)
def zw2(n:Nat):List UInt8:=
 if n<128 then[UInt8.ofNat n] else if n<2048 then[UInt8.ofNat (192+n/64),UInt8.ofNat (128+n % 64)]
 else if n<65536 then[UInt8.ofNat (224+n/4096),UInt8.ofNat (128+n/64 % 64),UInt8.ofNat (128+n % 64)]
 else[UInt8.ofNat (240+n/262144),UInt8.ofNat (128+n/4096 % 64),UInt8.ofNat (128+n/64 % 64),UInt8.ofNat (128+n % 64)]
abbrev zp8(r:Int):Prop:=(r<0\/r>1114111)\/(r>=55296/\r<=57343)
def zdt(r:Int):List UInt8:=if zp8 r then[] else zw2 r.toNat
theorem znS(a k b:Nat)(ha:a*2^k<=255)(hb:b<2^k)(hk:2^k<=255):UInt8.ofNat (IntKind.u8.wrap (zO .or .i64 ((a*2^k:Nat):Int) (b:Int))).toNat=UInt8.ofNat (a*2^k+b):=by
 rw[zpG (by omega) (by omega),zpj _ _ _ hb,zcO]
theorem zDv(b:Nat)(hb:b<64):UInt8.ofNat (IntKind.u8.wrap (zO .or .i64 (192:Int) (b:Int))).toNat=UInt8.ofNat (192+b):=znS 3 6 b (by decide) hb (by decide)
theorem zDu(b:Nat)(hb:b<32):UInt8.ofNat (IntKind.u8.wrap (zO .or .i64 (224:Int) (b:Int))).toNat=UInt8.ofNat (224+b):=znS 7 5 b (by decide) hb (by decide)
theorem zDt(b:Nat)(hb:b<16):UInt8.ofNat (IntKind.u8.wrap (zO .or .i64 (240:Int) (b:Int))).toNat=UInt8.ofNat (240+b):=znS 15 4 b (by decide) hb (by decide)
theorem zpv(n:Nat)(hn:n<=1114111):UInt8.ofNat (IntKind.u8.wrap (zO .or .i64 (128:Int) (zO .and .i64 (n:Int) (63:Int)))).toNat=UInt8.ofNat (128+n % 64):=by
 rw[show(63:Int)=((63:Nat):Int) from rfl,zuJ (by omega) (by decide),show(63:Nat)=2^6-1 from rfl,zve]
 exact znS 1 7 (n % 2^6) (by decide) (by omega) (by decide)
theorem zOG(r:Int)(h:0<=r/\r<=1114111):zMy 0 r=some (.p (.int .u8 ((zpu r).toNat:Int)),[]):=by
 obtain⟨n,rfl⟩:=Int.eq_ofNat_of_zero_le h.1
 rw[zMx]
 have e:zO .or .i64 (128:Int) (zO .and .i64 (n:Int) (63:Int))=((128+n % 64:Nat):Int):=by
  rw[show(63:Int)=((63:Nat):Int) from rfl,zuJ (by omega) (by decide),show(63:Nat)=2^6-1 from rfl,zve]
  rw[show(128:Int)=((1*2^7:Nat):Int) from rfl,zpG (by omega) (by omega),zpj _ _ _ (by omega)]
 rw[e,zDa,zpu]
 have:((128+n % 64:Nat):Int) % 256=((UInt8.ofNat (128+((n:Int)).toNat % 64)).toNat:Int):=by
  rw[UInt8.toNat_ofNat',Int.toNat_natCast];omega
 rw[this]
def zuc:List AV->Option (AV×Option Prop)
 | [.p (.int .i64 x)]=>some (.p (.int .u8 ((zpu x).toNat:Int)),some (0<=x/\x<=1114111))
 | _=>none
theorem zOp:zn Tryz.prog 111 zuc:=by
 intro zs r ok he hok
 unfold zuc at he
 split at he
 .cases he;exact⟨by kernel_rfl,zPg 0 _ _ fun hx=>zOG _ hok⟩
 .cases he
def zSX:=mkG [(111,zuc)] [] 64 [] [([1,0,0,1],⟨[0,3],[]⟩)] []
def zNj(F:Nat)(x:Int)(vc1:Bool):=zx zSX Tryz.f77 F [] [1,0,0,1] [(0,pI x),(3,pB vc1)] []
def zTf(F:Nat)(x:Int):=zF zSX Tryz.f77 F [pI x]
theorem zHR(F x vc1):letI A:=x.fdiv 64;letI B:=((zpu x).toNat:Int).toNat;letI C:=0<=x/\x<=1114111;letI D:=x.fdiv 4096;letI E:=((zpu A).toNat:Int).toNat;letI H:=0<=A/\A<=1114111;zNj F x vc1=cond vc1 (some (.p (.str ([]:List UInt8)),[])) (cond (decide (x<128)) (some (.p (.str [UInt8.ofNat (IntKind.u8.wrap x).toNat]),[])) (cond (decide (x<2048)) (ze C (some (.p (.str [UInt8.ofNat (IntKind.u8.wrap (zO .or .i64 (192:Int) A)).toNat,UInt8.ofNat B]),[]))) (cond (decide (x<65536)) (ze H (ze C (some (.p (.str [UInt8.ofNat (IntKind.u8.wrap (zO .or .i64 (224:Int) D)).toNat,UInt8.ofNat E,UInt8.ofNat B]),[])))) (ze (0<=D/\D<=1114111) (ze H (ze C (some (.p (.str [UInt8.ofNat (IntKind.u8.wrap (zO .or .i64 (240:Int) (x.fdiv 262144))).toNat,UInt8.ofNat ((zpu D).toNat:Int).toNat,UInt8.ofNat E,UInt8.ofNat B]),[])))))))):=letI A:=(6:Int);Eq.trans (by kernel_rfl) (zj rfl (zj rfl (zj (zl (show 0<=A from(by decide)) rfl) (zj (zl (show 0<=(12:Int) from(by decide)) (zl (show 0<=A from(by decide)) rfl)) (zl (show 0<=(18:Int) from(by decide)) (zl (show 0<=(12:Int) from(by decide)) (zf (zl (show 0<=A from(by decide)) rfl))))))))
theorem zQs(F x):zTf F x=zNj F x (((decide (x<0))||(decide (x>1114111)))||((decide (x>=55296))&&(decide (x<=57343)))):=letI B:=decide (x>=55296);letI D:=decide (x<0);letI A:=D||(decide (x>1114111));letI C:=(!A)=true;Eq.trans (by kernel_rfl) (nI ((!D)=true) (nN D (nI C (nI C (nI (((!A)&&B)=true) (nI C (zl (show(!A)=true->B=true->((!A)&&B)=true from(fun q0 q1=>(zfx q0 q1))) (nN A rfl))))))))
theorem zSA(F x r):IsP 77 (zTf F x) [.p (.int .i64 x)] r:=zG zSX rfl ⟨zOp.any,trivial⟩
def zLw:=mkG [] [] 76 [] [([1,0,0,1],⟨[0,3],[]⟩)] []
def zEI(F:Nat)(x:Int)(vc1:Bool):=zx zLw Tryz.f173 F [] [1,0,0,1] [(0,pI x),(3,pB vc1)] []
def zMp(F:Nat)(x:Int):=zF zLw Tryz.f173 F [pI x]
theorem zCZ(F x vc1):letI A:=(IntKind.u8.wrap (zO .or .i64 (128:Int) (zO .and .i64 x 63))).toNat;letI B:=(IntKind.u8.wrap (zO .or .i64 (128:Int) (zO .and .i64 (x.fdiv 64) 63))).toNat;zEI F x vc1=cond vc1 (some (.p (.str ([]:List UInt8)),[])) (cond (decide (x<128)) (some (.p (.str [UInt8.ofNat (IntKind.u8.wrap x).toNat]),[])) (cond (decide (x<2048)) (some (.p (.str [UInt8.ofNat (IntKind.u8.wrap (zO .or .i64 (192:Int) (x.fdiv 64))).toNat,UInt8.ofNat A]),[])) (cond (decide (x<65536)) (some (.p (.str [UInt8.ofNat (IntKind.u8.wrap (zO .or .i64 (224:Int) (x.fdiv 4096))).toNat,UInt8.ofNat B,UInt8.ofNat A]),[])) (some (.p (.str [UInt8.ofNat (IntKind.u8.wrap (zO .or .i64 (240:Int) (x.fdiv 262144))).toNat,UInt8.ofNat (IntKind.u8.wrap (zO .or .i64 (128:Int) (zO .and .i64 (x.fdiv 4096) 63))).toNat,UInt8.ofNat B,UInt8.ofNat A]),[]))))):=letI A:=(6:Int);Eq.trans (by kernel_rfl) (zj rfl (zj rfl (zj (zl (show 0<=A from(by decide)) rfl) (zj (zl (show 0<=(12:Int) from(by decide)) (zl (show 0<=A from(by decide)) rfl)) (zl (show 0<=(18:Int) from(by decide)) (zl (show 0<=(12:Int) from(by decide)) (zl (show 0<=A from(by decide)) rfl)))))))
theorem zMo(F x):zMp F x=zEI F x (((decide (x<0))||(decide (x>1114111)))||((decide (x>=55296))&&(decide (x<=57343)))):=letI B:=decide (x>=55296);letI D:=decide (x<0);letI A:=D||(decide (x>1114111));letI C:=(!A)=true;Eq.trans (by kernel_rfl) (nI ((!D)=true) (nN D (nI C (nI C (nI (((!A)&&B)=true) (nI C (zl (show(!A)=true->B=true->((!A)&&B)=true from(fun q0 q1=>(zfx q0 q1))) (nN A rfl))))))))
theorem zPd(F x r):IsP 173 (zMp F x) [.p (.int .i64 x)] r:=zG zLw rfl trivial
theorem fd(n k:Nat):((n:Int)).fdiv ((2^k:Nat):Int)=((n/2^k:Nat):Int):=by
 rw[Int.fdiv_eq_ediv_of_nonneg _ (Int.natCast_nonneg _),Int.natCast_ediv]
theorem zD4(r:Int):(((decide (r<(0:Int)))||(decide (r>(1114111:Int))))||((decide (r>=(55296:Int)))&&(decide (r<=(57343:Int)))))=decide (zp8 r):=by
 simp[zp8,Bool.decide_or,Bool.decide_and]
theorem zOF(n:Nat):UInt8.ofNat (((zpu (n:Int)).toNat:Int)).toNat=UInt8.ofNat (128+n % 64):=by
 rw[Int.toNat_natCast,UInt8.ofNat_toNat];rfl
theorem zST(r:Int)(h:-1000000000000<=r/\r<=1000000000000):zTf 0 r=some (.p (.str (zdt r)),[]):=by
 rw[zQs,zD4,zHR,zdt]
 by_cases hb:zp8 r
 .refine zi (by simpa using hb) ?_
  rw[if_pos hb]
 .refine zg (by simpa using hb) ?_
  rw[if_neg hb]
  have h0:0<=r:=by unfold zp8 at hb;omega
  have h1:r<=1114111:=by unfold zp8 at hb;omega
  obtain⟨n,rfl⟩:=Int.eq_ofNat_of_zero_le h0
  rw[show((n:Int)).toNat=n from rfl,zw2]
  have e1:((n:Int)).fdiv 64=((n/64:Nat):Int):=fd n 6
  have e2:((n:Int)).fdiv 4096=((n/4096:Nat):Int):=fd n 12
  have e3:((n:Int)).fdiv 262144=((n/262144:Nat):Int):=fd n 18
  simp only[e1,e2,e3,zOF]
  by_cases c1:n<128
  .refine zi (by simp;omega) ?_
   rw[if_pos c1,zcO]
  .refine zg (by simp;omega) ?_
   rw[if_neg c1]
   by_cases c2:n<2048
   .refine zi (by simp;omega) ?_
    refine zy ?_
    rw[if_pos c2,zDv _ (by omega)]
   .refine zg (by simp;omega) ?_
    rw[if_neg c2]
    by_cases c3:n<65536
    .refine zi (by simp;omega) ?_
     refine zy ?_
     refine zy ?_
     rw[if_pos c3,zDu _ (by omega)]
    .refine zg (by simp;omega) ?_
     refine zy ?_
     refine zy ?_
     refine zy ?_
     rw[if_neg c3,zDt _ (by omega)]
def zo3:List AV->Option (AV×Option Prop)
 | [.p (.int .i64 x)]=>some (.p (.str (zdt x)),some (-1000000000000<=x/\x<=1000000000000))
 | _=>none
theorem zAA:zn Tryz.prog 77 zo3:=by
 intro zs r ok he hok
 unfold zo3 at he
 split at he
 .cases he;exact⟨by kernel_rfl,zSA 0 _ _ fun hx=>zST _ hok⟩
 .cases he
theorem zN0(r:Int)(h:-1000000000000<=r/\r<=1000000000000):zMp 0 r=some (.p (.str (zdt r)),[]):=by
 rw[zMo,zD4,zCZ,zdt]
 by_cases hb:zp8 r
 .refine zi (by simpa using hb) ?_
  rw[if_pos hb]
 .refine zg (by simpa using hb) ?_
  rw[if_neg hb]
  have h0:0<=r:=by unfold zp8 at hb;omega
  have h1:r<=1114111:=by unfold zp8 at hb;omega
  obtain⟨n,rfl⟩:=Int.eq_ofNat_of_zero_le h0
  rw[show((n:Int)).toNat=n from rfl,zw2]
  have e1:((n:Int)).fdiv 64=((n/64:Nat):Int):=fd n 6
  have e2:((n:Int)).fdiv 4096=((n/4096:Nat):Int):=fd n 12
  have e3:((n:Int)).fdiv 262144=((n/262144:Nat):Int):=fd n 18
  simp only[e1,e2,e3,zpv n (by omega),zpv (n/64) (by omega),zpv (n/4096) (by omega)]
  by_cases c1:n<128
  .refine zi (by simp;omega) ?_
   rw[if_pos c1,zcO]
  .refine zg (by simp;omega) ?_
   rw[if_neg c1]
   by_cases c2:n<2048
   .refine zi (by simp;omega) ?_
    rw[if_pos c2,zDv _ (by omega)]
   .refine zg (by simp;omega) ?_
    rw[if_neg c2]
    by_cases c3:n<65536
    .refine zi (by simp;omega) ?_
     rw[if_pos c3,zDu _ (by omega)]
    .refine zg (by simp;omega) ?_
     rw[if_neg c3,zDt _ (by omega)]
def znK:List AV->Option (AV×Option Prop)
 | [.p (.int .i64 x)]=>some (.p (.str (zdt x)),some (-1000000000000<=x/\x<=1000000000000))
 | _=>none
theorem zDo:zn Tryz.prog 173 znK:=by
 intro zs r ok he hok
 unfold znK at he
 split at he
 .cases he;exact⟨by kernel_rfl,zPd 0 _ _ fun hx=>zN0 _ hok⟩
 .cases he
def szN(c:UInt8):Nat:=if 240<=c.toNat then 4 else if 224<=c.toNat then 3 else if 192<=c.toNat then 2 else 1
def v0(c:UInt8):Nat:=if 240<=c.toNat then c.toNat % 8 else if 224<=c.toNat then c.toNat % 16 else if 192<=c.toNat then c.toNat % 32 else c.toNat
def zh3:Nat->List UInt8->Nat
 | v,[]=>v
 | v,b::r=>zh3 (v*64+b.toNat % 64) r
def zxK(s:List UInt8)(i n v:Nat):Int×Int:=if zdt v=(s.drop i).take n then((v:Int),(i:Int)+n) else(-1,i)
def zdA(s:List UInt8)(i:Int):Int×Int:=
 if i<0\/i>=s.length then(-1,i) else
 let c:=s.getD i.toNat 0
 if szN c>s.length-i.toNat then(-1,i) else zxK s i.toNat (szN c) (zh3 (v0 c) ((s.drop (i.toNat+1)).take (szN c-1)))
abbrev zsD(s:List UInt8)(i:Int):Prop:=0<=i/\i<=s.length/\s.length<=1000000
def zFY(p:Int×Int):AV:=.tup [.p (.int .i64 p.1),.p (.int .i64 p.2)]
theorem zvg(c:UInt8):zO .and .u8 (c.toNat:Int) (63:Int)=((c.toNat % 64:Nat):Int)/\zO .and .u8 (c.toNat:Int) (7:Int)=((c.toNat % 8:Nat):Int)/\zO .and .u8 (c.toNat:Int) (15:Int)=((c.toNat % 16:Nat):Int)/\zO .and .u8 (c.toNat:Int) (31:Int)=((c.toNat % 32:Nat):Int):=by
 have h:=c.toNat_lt
 have:∀ x:Fin 256,zO .and .u8 ((x.val:Nat):Int) (63:Int)=((x.val % 64:Nat):Int)/\zO .and .u8 ((x.val:Nat):Int) (7:Int)=((x.val % 8:Nat):Int)/\zO .and .u8 ((x.val:Nat):Int) (15:Int)=((x.val % 16:Nat):Int)/\zO .and .u8 ((x.val:Nat):Int) (31:Int)=((x.val % 32:Nat):Int):=by decide+kernel
 exact this ⟨c.toNat,h⟩
theorem zvf(c:UInt8):zO .and .i64 (c.toNat:Int) (7:Int)=((c.toNat % 8:Nat):Int)/\zO .and .i64 (c.toNat:Int) (15:Int)=((c.toNat % 16:Nat):Int)/\zO .and .i64 (c.toNat:Int) (31:Int)=((c.toNat % 32:Nat):Int):=by
 have h:=c.toNat_lt
 have:∀ x:Fin 256,zO .and .i64 ((x.val:Nat):Int) (7:Int)=((x.val % 8:Nat):Int)/\zO .and .i64 ((x.val:Nat):Int) (15:Int)=((x.val % 16:Nat):Int)/\zO .and .i64 ((x.val:Nat):Int) (31:Int)=((x.val % 32:Nat):Int):=by decide+kernel
 exact this ⟨c.toNat,h⟩
theorem zTr(v:Nat)(c:UInt8)(hv:v<134217728):zO .or .i64 (IntKind.i64.wrap ((v:Int)*64)) (zO .and .u8 (c.toNat:Int) (63:Int))=((v*64+c.toNat % 64:Nat):Int):=by
 rw[(zvg c).1,zde (by omega) (by omega),show(v:Int)*64=((v*2^6:Nat):Int) by omega,zpG (by omega) (by omega),zpj _ _ _ (by omega)]
theorem zRt(v:Nat)(c:UInt8)(hv:v<134217728):zO .or .i64 (IntKind.i64.wrap ((v:Int)*64)) (zO .and .i64 (c.toNat:Int) (63:Int))=((v*64+c.toNat % 64:Nat):Int):=by
 have:zO .and .i64 (c.toNat:Int) (63:Int)=((c.toNat % 64:Nat):Int):=by
  have:=c.toNat_lt
  rw[show(63:Int)=((63:Nat):Int) from rfl,zuJ (by omega) (by decide),show(63:Nat)=2^6-1 from rfl,zve]
 rw[this,zde (by omega) (by omega),show(v:Int)*64=((v*2^6:Nat):Int) by omega,zpG (by omega) (by omega),zpj _ _ _ (by omega)]
theorem zeA{s:List UInt8}{j m:Nat}(h:j<s.length):(s.drop j).take (m+1)=s.getD j 0::(s.drop (j+1)).take m:=by
 rw[List.drop_eq_getElem_cons h,List.take_succ_cons,List.getD_eq_getElem?_getD,List.getElem?_eq_getElem h];rfl
theorem zjB(s:List UInt8)(i n:Nat):(s.take (i+n)).drop i=(s.drop i).take n:=by rw[List.drop_take,Nat.add_sub_cancel_left]
def zyi:=mkG [(173,znK)] [] 75 [] [([1,1,1,1,1],⟨[0,1,7,8],[]⟩),([0,1,0,1,1,1,1,1,1],⟨[0,1,7,8,9],[]⟩),([1,1,0,0,1,0,1,1,1,1,1,1],⟨[0,1,7,8,9],[]⟩)] []
def zhy(F:Nat)(s:List UInt8)(i vi1 vi2:Int):=zx zyi Tryz.f172 F [] [1,1,1,1,1] [(0,pS s),(1,pI i),(7,pI vi1),(8,pI vi2)] []
def zoc(F f1:Nat)(s:List UInt8)(i vi1 vi3 vi4:Int):=zH zyi Tryz.f172 F [] [1,1,1,1,1,1,0,1,0] f1 [(0,pS s),(1,pI i),(7,pI vi1),(8,pI vi3),(9,pI vi4)] []
def zEH(F f1:Nat)(s:List UInt8)(i vi1 vi5 vi4:Int):=zx zyi Tryz.f172 F [f1] [1,1,1,1,1,1,0,1,0,0,1,1] [(0,pS s),(1,pI i),(7,pI vi1),(8,pI vi5),(9,pI vi4)] []
def zMj(F:Nat)(s:List UInt8)(i:Int):=zF zyi Tryz.f172 F [pS s,pI i]
theorem zCU(F s i vi1 vi2):letI A:=(s.length:Int)-i;zhy F s i vi1 vi2=ze (zh A) (cond (decide (vi1>A)) (some (.tup [.p (.int .i64 (-1:Int)),.p (.int .i64 i)],[])) (zoc F F s i vi1 vi2 1)):=by kernel_rfl
theorem zqS(F f1 s i vi1 vi3 vi4):letI A:=i+vi1;letI B:=i+vi4;letI C:=(s.length:Int);zoc F (f1+1) s i vi1 vi3 vi4=cond (decide (vi4<vi1)) (ze (zh B) (ze (0<=B/\B<C) (zEH F f1 s i vi1 (zO .or .i64 (IntKind.i64.wrap (vi3*64)) (zO .and .i64 ((s.getD B.toNat 0).toNat:Int) 63)) vi4))) (ze (-1000000000000<=vi3/\vi3<=1000000000000) (ze (zh A) (ze (0<=i/\i<=A/\A<=C) (cond ((zdt vi3) != ((s.take A.toNat).drop i.toNat)) (some (.tup [.p (.int .i64 (-1:Int)),.p (.int .i64 i)],[])) (ze (zh A) (some (.tup [.p (.int .i64 vi3),.p (.int .i64 A)],[]))))))):=Eq.trans (by kernel_rfl) (zj (zl (show 0<=(6:Int) from(by decide)) rfl) rfl)
theorem zCT(F f1 s i vi1 vi5 vi4):zEH F f1 s i vi1 vi5 vi4=ze (zh (vi4+1)) (zoc F f1 s i vi1 vi5 (vi4+1)):=by kernel_rfl
theorem zMi(F s i):letI A:=((s.getD i.toNat 0).toNat:Int);letI B:=(s.length:Int);zMj F s i=cond ((decide (i<0))||(decide (i>=B))) (some (.tup [.p (.int .i64 (-1:Int)),.p (.int .i64 i)],[])) (ze (0<=i/\i<B) (cond (decide (A>=240)) (zhy F s i 4 (zO .and .i64 A 7)) (cond (decide (A>=224)) (zhy F s i 3 (zO .and .i64 A 15)) (cond (decide (A>=192)) (zhy F s i 2 (zO .and .i64 A 31)) (zhy F s i 1 A))))):=letI A:=(!(decide (i<0)))=true;Eq.trans (by kernel_rfl) (nI A (nI A (nI A (nN (decide (i<0)) rfl))))
theorem zPa(F s i r):IsP 172 (zMj F s i) [.p (.str s),.p (.int .i64 i)] r:=zG zyi rfl ⟨zDo.any,trivial⟩
theorem zCS(F:Nat)(s:List UInt8)(hs:s.length<=1000000)(i n:Nat)(h:i+n<=s.length)(hn:n<=4):∀ (m f j v:Nat),j+m=n->m<f->1<=j->v<8*64^(4-m)->
 zoc F f s (i:Int) (n:Int) (v:Int) (j:Int)=some (zFY (zxK s i n (zh3 v ((s.drop (i+j)).take m))),[]):=by
 intro m
 induction m with
 | zero=>
  intro f j v hj hf h1 hv
  cases f with
  | zero=>omega
  | succ f=>
   have hv:v<134217728:=by simpa using hv
   rw[zqS]
   refine zea ?_
   refine zy ?_
   refine zy ?_
   refine zy ?_
   have e1:((i:Int)+(n:Int)).toNat=i+n:=by omega
   rw[e1,show((i:Int)).toNat=i from rfl,zjB]
   simp only[List.take_zero,zh3,zxK]
   by_cases hp:zdt (v:Int)=(s.drop i).take n
   .refine zg (by simp[hp]) ?_
    refine zy ?_
    rw[if_pos hp];rfl
   .refine zi (by simpa using hp) ?_
    rw[if_neg hp];rfl
 | succ m ih=>
  intro f j v hj hf h1 hv
  cases f with
  | zero=>omega
  | succ f=>
   have hv2:v<134217728:=Nat.lt_of_lt_of_le hv (by
    have:(64:Nat)^(4-(m+1))<=64^4:=Nat.pow_le_pow_right (by decide) (by omega)
    have e:(64:Nat)^4=16777216:=rfl
    omega)
   rw[zqS]
   refine zd9 ?_
   refine zy ?_
   refine zy ?_
   have e1:((i:Int)+(j:Int)).toNat=i+j:=by omega
   rw[e1,zCT,zRt v _ hv2]
   refine zy ?_
   have e2:(j:Int)+1=((j+1:Nat):Int):=by omega
   rw[e2,ih f (j+1) _ (by omega) (by omega) (by omega) ?_,zeA (by omega),zh3]
   .rfl
   .have:4-m=(4-(m+1))+1:=by omega
    rw[this,Nat.pow_succ];omega
theorem zNQ(s:List UInt8)(i:Int)(h:zsD s i):zMj 10 s i=some (zFY (zdA s i),[]):=by
 obtain⟨h0,h1,h2⟩:=h
 obtain⟨i,rfl⟩:=Int.eq_ofNat_of_zero_le h0
 rw[zMi,zdA]
 by_cases hb:((i:Int)<0\/(i:Int)>=s.length)
 .refine zi (by simpa using hb) ?_
  rw[if_pos hb];rfl
 .refine zg (by simpa using hb) ?_
  rw[if_neg hb]
  have hi:i<s.length:=by omega
  refine zy ?_
  rw[show((i:Int)).toNat=i from rfl]
  dsimp only
  generalize hc:s.getD i 0=c
  have key:∀ n v,n=szN c->v=v0 c->1<=n->n<=4->v<8*64^(4-(n-1))->zhy 10 s (i:Int) (n:Int) (v:Int)=some (zFY (if szN c>s.length-i then(-1,(i:Int)) else zxK s i (szN c) (zh3 (v0 c) ((s.drop (i+1)).take (szN c-1)))),[]):=by
   intro n v hn hv h1n h4n hv8
   rw[zCU]
   refine zy ?_
   rw[<-hn,<-hv]
   by_cases hl:n>s.length-i
   .refine zi (by simp;omega) ?_
    rw[if_pos hl];rfl
   .refine zg (by simp;omega) ?_
    rw[if_neg hl]
    exact zCS 10 s h2 i n (by omega) h4n (n-1) 10 1 v (by omega) (by omega) (by omega) hv8
  have hlt:=c.toNat_lt
  by_cases c1:240<=c.toNat
  .refine zi (by simp;omega) ?_
   rw[(zvf c).1]
   exact key 4 _ (by rw[szN,if_pos c1]) (by rw[v0,if_pos c1]) (by decide) (by decide) (by simp;omega)
  .refine zg (by simp;omega) ?_
   by_cases c2:224<=c.toNat
   .refine zi (by simp;omega) ?_
    rw[(zvf c).2.1]
    exact key 3 _ (by rw[szN,if_neg c1,if_pos c2]) (by rw[v0,if_neg c1,if_pos c2]) (by decide) (by decide) (by simp;omega)
   .refine zg (by simp;omega) ?_
    by_cases c3:192<=c.toNat
    .refine zi (by simp;omega) ?_
     rw[(zvf c).2.2]
     exact key 2 _ (by rw[szN,if_neg c1,if_neg c2,if_pos c3]) (by rw[v0,if_neg c1,if_neg c2,if_pos c3]) (by decide) (by decide) (by simp;omega)
    .refine zg (by simp;omega) ?_
     exact key 1 _ (by rw[szN,if_neg c1,if_neg c2,if_neg c3]) (by rw[v0,if_neg c1,if_neg c2,if_neg c3]) (by decide) (by decide) (by simp;omega)
def zt7:List AV->Option (AV×Option Prop)
 | [.p (.str s),.p (.int .i64 i)]=>some (.tup [.p (.int .i64 ((zdA s i).1)),.p (.int .i64 ((zdA s i).2))],some (zsD s i))
 | _=>none
theorem zOk:zn Tryz.prog 172 zt7:=by
 intro zs r ok he hok
 unfold zt7 at he
 split at he
 .cases he;exact⟨by kernel_rfl,zPa 10 _ _ _ fun hx=>zNQ _ _ hok⟩
 .cases he
def zLq:=mkG [] [] 39 [] [] []
def zBF(F:Nat)(c:Int):=zF zLq Tryz.f141 F [.p (.int .u8 c)]
theorem zG2(F c):zBF F c=cond (decide (c<128)) (some (.tup [.p (.int .i64 1),.p (.int .i64 c)],[])) (cond ((decide (c>=192))&&(decide (c<224))) (some (.tup [.p (.int .i64 2),.p (.int .i64 (zO .and .u8 c 31))],[])) (cond ((decide (c>=224))&&(decide (c<240))) (some (.tup [.p (.int .i64 3),.p (.int .i64 (zO .and .u8 c 15))],[])) (cond ((decide (c>=240))&&(decide (c<248))) (some (.tup [.p (.int .i64 4),.p (.int .i64 (zO .and .u8 c 7))],[])) (some (.tup [.p (.int .i64 0),.p (.int .i64 0)],[]))))):=letI A:=(decide (c>=192))=true;letI B:=(decide (c>=224))=true;letI C:=(decide (c>=240))=true;Eq.trans (by kernel_rfl) (zj rfl (nI A (nI A (zj rfl (nI B (nI B (zj rfl (nI C (nI C rfl)))))))))
theorem zJU(F c r):IsP 141 (zBF F c) [.p (.int .u8 c)] r:=zG zLq rfl trivial
def zaP(c:Int):Int×Int:=
 if c<128 then(1,c) else if 192<=c/\c<224 then(2,zO .and .u8 c 31) else if 224<=c/\c<240 then(3,zO .and .u8 c 15) else if 240<=c/\c<248 then(4,zO .and .u8 c 7) else(0,0)
theorem zHX(c:Int):zBF 0 c=some (.tup [.p (.int .i64 (zaP c).1),.p (.int .i64 (zaP c).2)],[]):=by
 rw[zG2,zaP]
 by_cases c1:c<128
 .refine zi (by simpa using c1) ?_
  rw[if_pos c1]
 .refine zg (by simpa using c1) ?_
  rw[if_neg c1]
  by_cases c2:192<=c/\c<224
  .refine zi (by simpa using c2) ?_
   rw[if_pos c2]
  .refine zg (by simpa using c2) ?_
   rw[if_neg c2]
   by_cases c3:224<=c/\c<240
   .refine zi (by simpa using c3) ?_
    rw[if_pos c3]
   .refine zg (by simpa using c3) ?_
    rw[if_neg c3]
    by_cases c4:240<=c/\c<248
    .refine zi (by simpa using c4) ?_
     rw[if_pos c4]
    .refine zg (by simpa using c4) ?_
     rw[if_neg c4]
def zoy:List AV->Option (AV×Option Prop)
 | [.p (.int .u8 c)]=>some (.tup [.p (.int .i64 ((zaP c).1)),.p (.int .i64 ((zaP c).2))],none)
 | _=>none
theorem zIO:zn Tryz.prog 141 zoy:=by
 intro zs r ok he hok
 unfold zoy at he
 split at he
 .cases he;exact⟨by kernel_rfl,zJU 0 _ _ fun hx=>zHX _⟩
 .cases he
def zyg:=mkG [(77,zo3),(141,zoy)] [] 64 [] [([1,0,1,1,1],⟨[0,1,4,6,33],[]⟩),([0,1,0,1,1,1,1],⟨[0,1,4,6,7],[]⟩),([1,1,0,0,1,0,1,1,1,1],⟨[0,1,4,6,7],[]⟩)] []
def zv0(F:Nat)(s:List UInt8)(i vi1 vi2:Int)(vc3:Bool):=zx zyg Tryz.f109 F [] [1,1,1,0,1] [(0,pS s),(1,pI i),(4,pI vi1),(6,pI vi2),(33,pB vc3)] []
def zn6(F f1:Nat)(s:List UInt8)(i vi4 vi2 vi5:Int):=zH zyg Tryz.f109 F [] [1,1,1,1,0,1,0] f1 [(0,pS s),(1,pI i),(4,pI vi4),(6,pI vi2),(7,pI vi5)] []
def zEB(F f1:Nat)(s:List UInt8)(i vi6 vi2 vi5:Int):=zx zyg Tryz.f109 F [f1] [1,1,1,1,0,1,0,0,1,1] [(0,pS s),(1,pI i),(4,pI vi6),(6,pI vi2),(7,pI vi5)] []
def zLZ(F:Nat)(s:List UInt8)(i:Int):=zF zyg Tryz.f109 F [pS s,pI i]
theorem zqC(F s i vi1 vi2 vc3):zv0 F s i vi1 vi2 vc3=cond vc3 (some (.tup [.p (.int .i64 (-1:Int)),.p (.int .i64 i)],[])) (zn6 F F s i vi1 vi2 1):=by kernel_rfl
theorem zqB(F f1 s i vi4 vi2 vi5):letI A:=i+vi2;letI B:=i+vi5;letI C:=(s.length:Int);zn6 F (f1+1) s i vi4 vi2 vi5=cond (decide (vi5<vi2)) (ze (zh B) (ze (0<=B/\B<C) (zEB F f1 s i (zO .or .i64 (IntKind.i64.wrap (vi4*64)) (zO .and .u8 ((s.getD B.toNat 0).toNat:Int) 63)) vi2 vi5))) (ze (-1000000000000<=vi4/\vi4<=1000000000000) (ze (zh A) (ze (0<=i/\i<=A/\A<=C) (cond ((zdt vi4) != ((s.take A.toNat).drop i.toNat)) (some (.tup [.p (.int .i64 (-1:Int)),.p (.int .i64 i)],[])) (ze (zh A) (some (.tup [.p (.int .i64 vi4),.p (.int .i64 A)],[]))))))):=Eq.trans (by kernel_rfl) (zj (zl (show 0<=(6:Int) from(by decide)) rfl) rfl)
theorem zCE(F f1 s i vi6 vi2 vi5):zEB F f1 s i vi6 vi2 vi5=ze (zh (vi5+1)) (zn6 F f1 s i vi6 vi2 (vi5+1)):=by kernel_rfl
theorem zLY(F s i):letI A:=zaP ((s.getD i.toNat 0).toNat:Int);letI B:=(s.length:Int);zLZ F s i=cond ((decide (i<0))||(decide (i>=B))) (some (.tup [.p (.int .i64 (-1:Int)),.p (.int .i64 i)],[])) (ze (0<=i/\i<B) (ze ((!(A.1==0))=true->zh (B-i)) (zv0 F s i A.2 A.1 ((A.1==0)||(decide (A.1>(B-i))))))):=letI A:=(zaP ((s.getD i.toNat 0).toNat:Int)).1==0;letI B:=(!(decide (i<0)))=true;letI C:=(!A)=true;Eq.trans (by kernel_rfl) (nI B (nI B (nI B (nN (decide (i<0)) (zj rfl (zf (nI C (nI C (nI C (zf (nI C (nI C (nN A rfl)))))))))))))
theorem zOZ(F s i r):IsP 109 (zLZ F s i) [.p (.str s),.p (.int .i64 i)] r:=zG zyg rfl ⟨zAA.any,zIO.any,trivial⟩
theorem zCD(F:Nat)(s:List UInt8)(hs:s.length<=1000000)(i n:Nat)(h:i+n<=s.length)(hn:n<=4):∀ (m f j v:Nat),j+m=n->m<f->1<=j->v<8*64^(4-m)->
 zn6 F f s (i:Int) (v:Int) (n:Int) (j:Int)=some (zFY (zxK s i n (zh3 v ((s.drop (i+j)).take m))),[]):=by
 intro m
 induction m with
 | zero=>
  intro f j v hj hf h1 hv
  cases f with
  | zero=>omega
  | succ f=>
   have hv:v<134217728:=by simpa using hv
   rw[zqB]
   refine zea ?_
   refine zy ?_
   refine zy ?_
   refine zy ?_
   have e1:((i:Int)+(n:Int)).toNat=i+n:=by omega
   rw[e1,show((i:Int)).toNat=i from rfl,zjB]
   simp only[List.take_zero,zh3,zxK]
   by_cases hp:zdt (v:Int)=(s.drop i).take n
   .refine zg (by simp[hp]) ?_
    refine zy ?_
    rw[if_pos hp];rfl
   .refine zi (by simpa using hp) ?_
    rw[if_neg hp];rfl
 | succ m ih=>
  intro f j v hj hf h1 hv
  cases f with
  | zero=>omega
  | succ f=>
   have hv2:v<134217728:=Nat.lt_of_lt_of_le hv (by
    have:(64:Nat)^(4-(m+1))<=64^4:=Nat.pow_le_pow_right (by decide) (by omega)
    have e:(64:Nat)^4=16777216:=rfl
    omega)
   rw[zqB]
   refine zd9 ?_
   refine zy ?_
   refine zy ?_
   have e1:((i:Int)+(j:Int)).toNat=i+j:=by omega
   rw[e1,zCE,zTr v _ hv2]
   refine zy ?_
   have e2:(j:Int)+1=((j+1:Nat):Int):=by omega
   rw[e2,ih f (j+1) _ (by omega) (by omega) (by omega) ?_,zeA (by omega),zh3]
   .rfl
   .have:4-m=(4-(m+1))+1:=by omega
    rw[this,Nat.pow_succ];omega
theorem zID(n:Nat):(zw2 n).length<=4/\1<=(zw2 n).length:=by unfold zw2;split <;> (try split) <;> (try split) <;> simp
theorem zFl{v:Nat}{c:UInt8}{r:List UInt8}(h:zdt (v:Int)=c::r)(h4:r.length=3):240<=c.toNat/\c.toNat<248:=by
 unfold zdt at h
 split at h
 .cases h
 .rename_i hb
  have hv:v<=1114111:=by unfold zp8 at hb;omega
  rw[show((v:Int)).toNat=v from rfl]at h
  unfold zw2 at h
  split at h
  .cases h;cases h4
  .split at h
   .cases h;cases h4
   .split at h
    .cases h;cases h4
    .cases h
     rw[UInt8.toNat_ofNat']
     omega
theorem zFZ{s:List UInt8}{i:Nat}{c:UInt8}(hi:i<s.length)(hc:s.getD i 0=c)(h:(128<=c.toNat/\c.toNat<192)\/248<=c.toNat):zdA s (i:Int)=(-1,(i:Int)):=by
 rw[zdA,if_neg (by omega)]
 rw[show((i:Int)).toNat=i from rfl]
 dsimp only
 rw[hc]
 split
 .rfl
 .rename_i hl
  rw[zxK,if_neg ?_]
  intro e
  have hlen:=congrArg List.length e
  have htl:((s.drop i).take (szN c)).length=szN c:=by simp;omega
  rw[htl]at hlen
  rcases h with h|h
  .have hz:szN c=1:=by unfold szN;rw[if_neg (by omega),if_neg (by omega),if_neg (by omega)]
   have hv:v0 c=c.toNat:=by unfold v0;rw[if_neg (by omega),if_neg (by omega),if_neg (by omega)]
   rw[hz,hv]at hlen
   simp only[Nat.sub_self,List.take_zero,zh3]at hlen
   unfold zdt at hlen
   rw[if_neg (by unfold zp8;omega),show((c.toNat:Int)).toNat=c.toNat from rfl,zw2,if_neg (by omega),if_pos (by omega)]at hlen
   cases hlen
  .have hz:szN c=4:=by unfold szN;rw[if_pos (by omega)]
   rw[hz]at e
   rw[zeA hi,hc]at e
   have:=zFl e (by simp;omega)
   omega
theorem zNn(s:List UInt8)(i:Int)(h:zsD s i):zLZ 10 s i=some (zFY (zdA s i),[]):=by
 obtain⟨h0,h1,h2⟩:=h
 obtain⟨i,rfl⟩:=Int.eq_ofNat_of_zero_le h0
 rw[zLY]
 by_cases hb:((i:Int)<0\/(i:Int)>=s.length)
 .refine zi (by simpa using hb) ?_
  rw[zdA,if_pos hb];rfl
 .refine zg (by simpa using hb) ?_
  have hi:i<s.length:=by omega
  refine zy ?_
  refine zd (fun _=>by unfold zh;omega) ?_
  rw[show((i:Int)).toNat=i from rfl]
  generalize hc:s.getD i 0=c
  have hlt:=c.toNat_lt
  by_cases hn:(128<=c.toNat/\c.toNat<192)\/248<=c.toNat
  .have hz:zaP (c.toNat:Int)=(0,0):=by unfold zaP;rw[if_neg (by omega),if_neg (by omega),if_neg (by omega),if_neg (by omega)]
   rw[zFZ hi hc hn,hz,zqC]
   exact zi rfl rfl
  .have key:∀ n v:Nat,zaP (c.toNat:Int)=((n:Int),(v:Int))->n=szN c->v=v0 c->1<=n->n<=4->v<8*64^(4-(n-1))->
    zv0 10 s (i:Int) (zaP (c.toNat:Int)).2 (zaP (c.toNat:Int)).1 (((zaP (c.toNat:Int)).1==(0:Int))||(decide ((zaP (c.toNat:Int)).1>((s.length:Int)-(i:Int)))))=some (zFY (zdA s i),[]):=by
    intro n v hu hn hv h1n h4n hv8
    rw[hu,zqC,zdA,if_neg hb,show((i:Int)).toNat=i from rfl]
    dsimp only
    rw[hc,<-hn,<-hv]
    by_cases hl:n>s.length-i
    .refine zi (by simp;omega) ?_
     rw[if_pos hl];rfl
    .refine zg (by simp;omega) ?_
     rw[if_neg hl]
     exact zCD 10 s h2 i n (by omega) h4n (n-1) 10 1 v (by omega) (by omega) (by omega) hv8
   by_cases c1:240<=c.toNat
   .exact key 4 (c.toNat % 8) (by unfold zaP;rw[if_neg (by omega),if_neg (by omega),if_neg (by omega),if_pos (by omega),(zvg c).2.1];rfl) (by rw[szN,if_pos c1]) (by rw[v0,if_pos c1]) (by decide) (by decide) (by simp;omega)
   .by_cases c2:224<=c.toNat
    .exact key 3 (c.toNat % 16) (by unfold zaP;rw[if_neg (by omega),if_neg (by omega),if_pos (by omega),(zvg c).2.2.1];rfl) (by rw[szN,if_neg c1,if_pos c2]) (by rw[v0,if_neg c1,if_pos c2]) (by decide) (by decide) (by simp;omega)
    .by_cases c3:192<=c.toNat
     .exact key 2 (c.toNat % 32) (by unfold zaP;rw[if_neg (by omega),if_pos (by omega),(zvg c).2.2.2];rfl) (by rw[szN,if_neg c1,if_neg c2,if_pos c3]) (by rw[v0,if_neg c1,if_neg c2,if_pos c3]) (by decide) (by decide) (by simp;omega)
     .exact key 1 c.toNat (by unfold zaP;rw[if_pos (by omega)];rfl) (by rw[szN,if_neg c1,if_neg c2,if_neg c3]) (by rw[v0,if_neg c1,if_neg c2,if_neg c3]) (by decide) (by decide) (by simp;omega)
def ztW:List AV->Option (AV×Option Prop)
 | [.p (.str s),.p (.int .i64 i)]=>some (.tup [.p (.int .i64 ((zdA s i).1)),.p (.int .i64 ((zdA s i).2))],some (zsD s i))
 | _=>none
theorem zN9:zn Tryz.prog 109 ztW:=by
 intro zs r ok he hok
 unfold ztW at he
 split at he
 .cases he;exact⟨by kernel_rfl,zOZ 10 _ _ _ fun hx=>zNn _ _ hok⟩
 .cases he
theorem zNs(c:UInt8):1<=szN c/\szN c<=4:=by unfold szN;split <;> (try split) <;> (try split) <;> omega
theorem zsX{s:List UInt8}{i:Nat}(h:¬ (zdA s (i:Int)).1<0):∃ n:Nat,(zdA s (i:Int)).2=(n:Int)/\i<n/\n<=s.length:=by
 unfold zdA at *
 by_cases hb:((i:Int)<0\/(i:Int)>=s.length)
 .rw [if_pos hb]at h;exact absurd (show(-1:Int)<0 by decide) h
 .rw [if_neg hb]at *
  rw[show((i:Int)).toNat=i from rfl]at *
  dsimp only at *
  by_cases hl:szN (s.getD i 0)>s.length-i
  .rw [if_pos hl]at h;exact absurd (show(-1:Int)<0 by decide) h
  .rw [if_neg hl]at *
   unfold zxK at *
   split at h
   .rename_i hp
    rw[if_pos hp]
    have:=zNs (s.getD i 0)
    exact⟨i+szN (s.getD i 0),by simp,by omega,by omega⟩
   .exact absurd (show(-1:Int)<0 by decide) h
def zk6:Nat->List UInt8->Int->Bool
 | 0,_,_=>true
 | f+1,s,i=>if i<s.length then if(zdA s i).1<0 then false else zk6 f s (zdA s i).2 else true
def zaS(s:List UInt8):Bool:=zk6 (s.length+1) s 0
def zvo:=mkG [(109,ztW)] [] 19 [] [([0,0,1,1],⟨[0,3],[]⟩)] []
def zhp(F f1:Nat)(s:List UInt8)(vi1:Int):=zH zvo Tryz.f75 F [] [1,1,0,0] f1 [(0,pS s),(3,pI vi1)] []
def zvz(F:Nat)(s:List UInt8):=zF zvo Tryz.f75 F [pS s]
theorem zvZ(F f1 s vi1):zhp F (f1+1) s vi1=cond (decide (vi1<(s.length:Int))) (ze (zsD s vi1) (cond (decide ((zdA s vi1).1<0)) (some (.p (.bool false),[])) (zhp F f1 s (zdA s vi1).2))) (some (.p (.bool true),[])):=by kernel_rfl
theorem zBE(F s):zvz F s=zhp F F s 0:=by kernel_rfl
theorem zF5(F s r):IsP 75 (zvz F s) [.p (.str s)] r:=zG zvo rfl ⟨zN9.any,trivial⟩
def zvp:=mkG [(172,zt7)] [] 19 [] [([0,1,0,1],⟨[0,3],[]⟩)] []
def zhs(F f1:Nat)(s:List UInt8)(vi1:Int):=zH zvp Tryz.f152 F [] [1,0,1,0] f1 [(0,pS s),(3,pI vi1)] []
def zvA(F:Nat)(s:List UInt8):=zF zvp Tryz.f152 F [pS s]
theorem zv7(F f1 s vi1):zhs F (f1+1) s vi1=cond (decide (vi1<(s.length:Int))) (ze (zsD s vi1) (cond (decide ((zdA s vi1).1<0)) (some (.p (.bool false),[])) (zhs F f1 s (zdA s vi1).2))) (some (.p (.bool true),[])):=by kernel_rfl
theorem zBH(F s):zvA F s=zhs F F s 0:=by kernel_rfl
theorem zF6(F s r):IsP 152 (zvA F s) [.p (.str s)] r:=zG zvp rfl ⟨zOk.any,trivial⟩
theorem zvY(F:Nat)(s:List UInt8)(hs:s.length<=1000000):∀ (f i:Nat),s.length-i<f->i<=s.length->zhp F f s (i:Int)=some (.p (.bool (zk6 f s (i:Int))),[]):=by
 intro f
 induction f with
 | zero=>intro i h;omega
 | succ f ih=>
  intro i hf hi
  rw[zvZ,zk6]
  by_cases h1:(i:Int)<s.length
  .refine zi (by simpa using h1) (zd ⟨by omega,by omega,hs⟩ ?_)
   rw[if_pos h1]
   by_cases h2:(zdA s (i:Int)).1<0
   .refine zi (by simpa using h2) ?_
    rw[if_pos h2]
   .refine zg (by simpa using h2) ?_
    rw[if_neg h2]
    obtain⟨n,e,h3,h4⟩:=zsX h2
    rw[e]
    exact ih n (by omega) h4
  .refine zg (by simpa using h1) ?_
   rw[if_neg h1]
theorem zEQ(s:List UInt8)(hs:s.length<=1000000):zvz (s.length+1) s=some (.p (.bool (zaS s)),[]):=by
 rw[zBE]
 exact zvY _ s hs (s.length+1) 0 (by omega) (by omega)
def zgU:List AV->Option (AV×Option Prop)
 | [.p (.str s)]=>some (.p (.bool (zaS s)),some (s.length<=1000000))
 | _=>none
theorem zsI:zn Tryz.prog 75 zgU:=by
 intro zs r ok he hok
 unfold zgU at he
 split at he
 .cases he;exact⟨by kernel_rfl,zF5 (_) _ _ fun hx=>zEQ _ hok⟩
 .cases he
theorem zv6(F:Nat)(s:List UInt8)(hs:s.length<=1000000):∀ (f i:Nat),s.length-i<f->i<=s.length->zhs F f s (i:Int)=some (.p (.bool (zk6 f s (i:Int))),[]):=by
 intro f
 induction f with
 | zero=>intro i h;omega
 | succ f ih=>
  intro i hf hi
  rw[zv7,zk6]
  by_cases h1:(i:Int)<s.length
  .refine zi (by simpa using h1) (zd ⟨by omega,by omega,hs⟩ ?_)
   rw[if_pos h1]
   by_cases h2:(zdA s (i:Int)).1<0
   .refine zi (by simpa using h2) ?_
    rw[if_pos h2]
   .refine zg (by simpa using h2) ?_
    rw[if_neg h2]
    obtain⟨n,e,h3,h4⟩:=zsX h2
    rw[e]
    exact ih n (by omega) h4
  .refine zg (by simpa using h1) ?_
   rw[if_neg h1]
theorem zE1(s:List UInt8)(hs:s.length<=1000000):zvA (s.length+1) s=some (.p (.bool (zaS s)),[]):=by
 rw[zBH]
 exact zv6 _ s hs (s.length+1) 0 (by omega) (by omega)
def zgW:List AV->Option (AV×Option Prop)
 | [.p (.str s)]=>some (.p (.bool (zaS s)),some (s.length<=1000000))
 | _=>none
theorem zsJ:zn Tryz.prog 152 zgW:=by
 intro zs r ok he hok
 unfold zgW at he
 split at he
 .cases he;exact⟨by kernel_rfl,zF6 (_) _ _ fun hx=>zE1 _ hok⟩
 .cases he
theorem zjl(v:Int):(zdt v).length<=4:=by
 unfold zdt
 split
 .simp
 .exact (zID _).1
def zac(s:List UInt8):List UInt8:=s.flatMap fun c=>zdt (c.toNat:Int)
def zvq:=mkG [(173,znK)] [] 20 [] [([0,1,0,1,1],⟨[0,3,4],[⟨.slot 3,3,(.barr 5 false [])⟩]⟩)] []
def zhA(F f1:Nat)(s:List UInt8)(vi1:Int)(vb2:List UInt8):=zH zvq Tryz.f153 F [] [1,1,0,1,0] f1 [(0,pS s),(3,.arr 3),(4,pI vi1)] [(3,.barr 5 false vb2)]
def zvH(F:Nat)(s:List UInt8):=zF zvq Tryz.f153 F [pS s]
theorem zkv(F f1 s vi1 vb2):letI A:=((s.getD vi1.toNat 0).toNat:Int);letI B:=(s.length:Int);zhA F (f1+1) s vi1 vb2=cond (decide (vi1<B)) (ze (0<=vi1/\vi1<B) (ze (-1000000000000<=A/\A<=1000000000000) (ze ((vb2.length+(zdt A).length)*1<=140737488355328) (ze (zh (vi1+1)) (zhA F f1 s (vi1+1) (vb2++(zdt A))))))) (some (.p (.str vb2),[])):=by kernel_rfl
theorem zBS(F s):zvH F s=zhA F F s 0 []:=by kernel_rfl
theorem zGc(F s r):IsP 153 (zvH F s) [.p (.str s)] r:=zG zvq rfl ⟨zDo.any,trivial⟩
theorem zwh(F:Nat)(s:List UInt8)(hs:s.length<=1000000):∀ (r:List UInt8) (f i:Nat) (acc:List UInt8),s.drop i=r->acc.length<=4*i->r.length<f->i<=s.length->
 zhA F f s (i:Int) acc=some (.p (.str (acc++zac r)),[]):=by
 intro r
 induction r with
 | nil=>
  intro f i acc hd ha hf hi
  have:i=s.length:=by have:=congrArg List.length hd;simp at this;omega
  cases f with
  | zero=>omega
  | succ f=>
   rw[zkv]
   refine zea ?_
   simp[zac]
 | cons c r ih=>
  intro f i acc hd ha hf hi
  obtain⟨h1,h2,h3⟩:=yg hd
  cases f with
  | zero=>omega
  | succ f=>
   have hlt:=c.toNat_lt
   have hl:=zjl (c.toNat:Int)
   rw[zkv]
   refine zd9 ?_
   refine zy ?_
   rw[Int.toNat_natCast,h1]
   refine zy ?_
   refine zd (by omega) ?_
   refine zy ?_
   have e:(i:Int)+1=((i+1:Nat):Int):=by omega
   rw[e,ih f (i+1) _ h2 (by simp;omega) (by simp at hf;omega) (by omega)]
   simp[zac]
theorem zFb(s:List UInt8)(hs:s.length<=1000000):zvH (s.length+1) s=some (.p (.str (zac s)),[]):=by
 rw[zBS]
 exact zwh _ s hs s (s.length+1) 0 [] rfl (by simp) (by omega) (by omega)
def zgX:List AV->Option (AV×Option Prop)
 | [.p (.str s)]=>some (.p (.str (zac s)),some (s.length<=1000000))
 | _=>none
theorem zsL:zn Tryz.prog 153 zgX:=by
 intro zs r ok he hok
 unfold zgX at he
 split at he
 .cases he;exact⟨by kernel_rfl,zGc (_) _ _ fun hx=>zFb _ hok⟩
 .cases he
end Go.Proofs.YtampckbjinodgaaGreatDoor
