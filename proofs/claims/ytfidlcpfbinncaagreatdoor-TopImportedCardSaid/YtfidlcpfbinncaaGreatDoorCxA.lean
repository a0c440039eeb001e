/-
  Functions of this program over texts that are not known, lifted; no condition of its own.
-/
import Derived.Test.YtfidlcpfbinncaaGreatDoorProg
import Derived.WalkKit
import Derived.Lib.Bytealg
import Derived.Shelf.Strings.SlTrimAscii
import Derived.ShutString
import Derived.Test.YtfidlcpfbinncaaGreatDoorAmD
import Derived.Test.YtfidlcpfbinncaaGreatDoorAmZ
set_option linter.unusedVariables false
noncomputable section
namespace Go.Proofs.YtfidlcpfbinncaaGreatDoor
open Go Go.Am
theorem zek:Tryz.prog.follows .mixedOrders=true:=by kernel_rfl
abbrev HasA(A:List AV):Prop:=∃ M vs,ARels γ0 M A vs
abbrev HasR(A:List AV)(B:List (Nat×AObj)):Prop:=∃ γ M w vs,ARels γ M A vs/\ziZ γ M w (fun i=>ze i B) (fun b=>b<w.heap.size)
abbrev IsP(f:FuncId)(x:Option Ans)(A:List AV)(r:AV):Prop:=(HasA A->x=some (r,[]))->FnP Tryz.prog f A r
abbrev IsR(f:FuncId)(x:Option Ans)(A:List AV)(B:List (Nat×AObj))(kept:List Nat)(r:AV)(os:List (Nat×AObj)):Prop:=(HasR A B->x=some (r,os))->FnR Tryz.prog f A B kept r os
def pI(x:Int):AV:=.p (.int .i64 x)
def pS(x:List UInt8):AV:=.p (.str x)
def pB(x:Bool):AV:=.p (.bool x)
def pL(k:Nat)(c:Ec)(x:List (Elt c)):AV:=.p (.list k (.dat c x))
noncomputable def zt5(G:Cfg)(fn:Func):=runR G (zaV fn) (kP Tryz.prog fn.results.toList)
noncomputable def zi9(G:Cfg)(fn:Func):=zD1 G (zaV fn) (kP Tryz.prog fn.results.toList)
noncomputable def mkG(l:List (Nat×(List AV->Option (AV×Option Prop))))(lr:List (Nat×zma))(nt:Nat)(fx:List Nat)(cs:List (List Nat×Cut))(rs:List (List Nat×List Nat)):Cfg:=⟨Tryz.prog,ze0 l,zgI lr,nt,fx,cs,rs⟩
section
variable {f:FuncId}{fn:Func}{args:List AV}{r:AV}{ib:List (Nat×AObj)}{kept:List Nat}{os:List (Nat×AObj)}{l:List (Nat×(List AV->Option (AV×Option Prop)))}{lr:List (Nat×zma)}{nt:Nat}{cs:List (List Nat×Cut)}{rs:List (List Nat×List Nat)}
theorem zi2(G:Cfg){F:Nat}(hG:G=mkG l lr nt [] cs rs)(he:All (l.map fun p=>zhZ Tryz.prog p.1 p.2))(hr:All (lr.map fun p=>zhY Tryz.prog p.1 p.2):=by trivial)
 (hf:Tryz.prog.funcs[f]?=some fn:=by kernel_rfl) (hb:(fn.body.isSome,Nat.ble args.length fn.ntmps,Nat.beq nt fn.ntmps)=(true,true,true):=by kernel_rfl)
 (h:HasA args->zgB G fn F args=some (r,[])):FnP Tryz.prog f args r:=by
 subst hG;exact zC3 _ F rfl (zbi he) (zb7 hr) zek hf hb rfl h
theorem FnRz(G:Cfg)(c:Cut)(ids:List Nat){F:Nat}(hG:G=mkG l lr nt kept cs rs)(he:All (l.map fun p=>zhZ Tryz.prog p.1 p.2))(hr:All (lr.map fun p=>zhY Tryz.prog p.1 p.2):=by trivial)
 (hf:Tryz.prog.funcs[f]?=some fn:=by kernel_rfl) (hb:(fn.body.isSome,Nat.ble args.length fn.ntmps,Nat.beq nt fn.ntmps)=(true,true,true):=by kernel_rfl)
 (h:HasR args ib->zxP G fn c ids F args ib=some (r,os)):FnR Tryz.prog f args ib kept r os:=by
 subst hG;exact zC2 _ c ids F rfl (zbi he) (zb7 hr) zek hf hb rfl h
end
end Go.Proofs.YtfidlcpfbinncaaGreatDoor
namespace Go.Proofs.YtfidlcpfbinncaaGreatDoor
open Go Go.Am
theorem zyp{n:Int}(h0:-1000000000000<=n)(h1:n<=1000000000000):zQ n:=by unfold zQ;omega
theorem ziR{s:List UInt8}{i:Nat}{c:UInt8}{r:List UInt8}(h:s.drop i=c::r):s.getD i 0=c/\s.drop (i+1)=r/\s.length=i+1+r.length:=by
 have h1:s[i]?=some c:=by
  have:(s.drop i)[0]?=some c:=by rw[h];rfl
  simpa using this
 refine⟨by rw[List.getD_eq_getElem?_getD,h1];rfl,?_,?_⟩
 .have:(s.drop i).drop 1=r:=by rw[h];rfl
  simpa[List.drop_drop]using this
 .have:=congrArg List.length h
  simp at this
  have:i<s.length:=by
   rcases Nat.lt_or_ge i s.length with h'|h'
   .exact h'
   .rw [List.drop_of_length_le h']at h;cases h
  omega
theorem zFA{c d:UInt8}:((c.toNat:Int)=(d.toNat:Int))↔c=d:=by
 constructor
 .intro h;exact UInt8.toNat_inj.1 (by omega)
 .rintro rfl;rfl
theorem zkp(x:Nat):UInt8.ofNat (IntKind.u8.wrap (x:Int)).toNat=UInt8.ofNat x:=by
 rw[znZ]
 have:((x:Int) % 256).toNat=x % 256:=by omega
 rw[this]
 apply UInt8.toNat_inj.1
 rw[UInt8.toNat_ofNat',UInt8.toNat_ofNat']
 omega
def digK:Nat->Int->List UInt8
 | 0,_=>[]
 | k+1,n=>if n<10 then[UInt8.ofNat (48+n.toNat)] else digK k (n.tdiv 10)++[UInt8.ofNat (48+(n.tmod 10).toNat)]
def okD:Nat->Int->Prop
 | 0,_=>False
 | k+1,n=>k<=1000/\0<=n/\n<=1000000/\(n<10\/okD k (n.tdiv 10))
theorem zq6:∀ (k:Nat) (n:Int),(digK k n).length<=k
 | 0,n=>by simp[digK]
 | k+1,n=>by
  have:=zq6 k (n.tdiv 10)
  rw[digK]
  split
  .simp
  .simp;omega
def zg7(k:Nat):List AV->Option (AV×Option Prop)
 | [.p (.int .i64 n)]=>some (.p (.str (digK k n)),some (okD k n))
 | _=>none
noncomputable def zDJ(k:Nat):=mkG [(26,zg7 k)] [] 21 [] [] []
noncomputable def zAG(k:Nat)(F:Nat)(n:Int):=zgB (zDJ k) Tryz.f26 F [pI n]
theorem zAF(k:Nat)(F n):letI A:=(10:Int);letI B:=48+(if(0:Int)>n then 0 else n);letI C:=(IntKind.u8.wrap (48+(n.tmod A))).toNat;letI D:=n.tdiv A;zAG k F n=cond (decide (n<10)) (need (zQ B) (some (.p (.str [UInt8.ofNat (IntKind.u8.wrap B).toNat]),[]))) (need (A≠0/\zQ D) (need (okD k D) (need (zQ (48+(n.tmod A))) (need (zlh ((digK k D).length+[UInt8.ofNat C].length)) (some (.p (.str ((digK k D)++[UInt8.ofNat C])),[])))))):=Eq.trans (by kernel_rfl) (yN rfl (zM (zM (zj (show(10:Int)≠0 from(by decide)) rfl))))
theorem zCc(k:Nat)(hrec:zaG Tryz.prog 26 (zg7 k))(F n r):IsP 26 (zAG k F n) [.p (.int .i64 n)] r:=zi2 (zDJ k) rfl ⟨hrec.any,trivial⟩
theorem zBx(k:Nat)(n:Int)(h:okD (k+1) n):zAG k 0 n=some (.p (.str (digK (k+1) n)),[]):=by
 obtain⟨hk,h0,h1,h2⟩:=h
 rw[zAF,digK]
 by_cases hn:n<10
 .rw [if_pos hn,if_neg (by omega),znZ,show((48+n) % 256).toNat=48+n.toNat by omega]
  exact yL (by simpa using hn) (zk (by unfold zQ;omega) rfl)
 .rw [if_neg hn]
  have hd:okD k (n.tdiv 10):=h2.resolve_left hn
  have hl:=zq6 k (n.tdiv 10)
  obtain⟨m,rfl⟩:=Int.eq_ofNat_of_zero_le h0
  have e1:((m:Int).tdiv 10)=((m/10:Nat):Int):=rfl
  have e2:((m:Int).tmod 10)=((m % 10:Nat):Int):=rfl
  rw[e1]at hd hl ⊢
  have e3:(IntKind.u8.wrap ((48:Int)+((m % 10:Nat):Int))).toNat=48+(((m % 10:Nat):Int)).toNat:=by rw[znZ];omega
  rw[e2,e3]
  exact yM (by simpa using hn) (zk ⟨by decide,by unfold zQ;omega⟩ (zk hd (zk (by unfold zQ;omega) (zk (by unfold zlh;simp only[List.length_cons,List.length_nil];omega) rfl))))
theorem ok_rdig:∀ k,zaG Tryz.prog 26 (zg7 k)
 | 0=>by
  intro zs r ok he hok
  unfold zg7 at he
  split at he
  .cases he;exact absurd hok (by simp[okD])
  .cases he
 | k+1=>by
  intro zs r ok he hok
  unfold zg7 at he
  split at he
  .cases he;exact⟨by kernel_rfl,zCc k (ok_rdig k) 0 _ _ fun _=>zBx k _ hok⟩
  .cases he
end Go.Proofs.YtfidlcpfbinncaaGreatDoor
/-! The long literals. -/
namespace Go.Proofs.YtfidlcpfbinncaaGreatDoor
def zO:List UInt8:=[65,66,67,68,69,70,71,72,73,74,75,76,77,78,79,80,81,82,83,84,85,86,87,88,89,90,97,98,99,100,101,102,103,104,105,106,107,108,109,110,111,112,113,114,115,116,117,118,119,120,121,122,48,49,50,51,52,53,54,55,56,57,43,47]
end Go.Proofs.YtfidlcpfbinncaaGreatDoor
namespace Go.Proofs.YtfidlcpfbinncaaGreatDoor
open Go Go.Am
def zbt(fuel:Nat) :Nat->Int->Int->Int->List UInt8->Option (List UInt8)
 | 0,_,_,_,_=>none
 | f1+1,bits,n,vi1,vb2=>if(decide (vi1<n))=true then(if(zQ ((6:Int)*vi1))/\(zQ ((18:Int)-((6:Int)*vi1)))/\(0<=((18:Int)-((6:Int)*vi1)))/\(0<=(zJ .and .i64 (bits.fdiv (2^(min ((18:Int)-((6:Int)*vi1)).toNat 64))) (63:Int))/\(zJ .and .i64 (bits.fdiv (2^(min ((18:Int)-((6:Int)*vi1)).toNat 64))) (63:Int))<(zO.length:Int))/\((vb2.length+[UInt8.ofNat (((zO.getD (zJ .and .i64 (bits.fdiv (2^(min ((18:Int)-((6:Int)*vi1)).toNat 64))) (63:Int)).toNat 0).toNat:Int)).toNat].length)*1<=140737488355328) then(if zQ (vi1+(1:Int)) then(zbt fuel f1 bits n (vi1+(1:Int)) (vb2++[UInt8.ofNat (((zO.getD (zJ .and .i64 (bits.fdiv (2^(min ((18:Int)-((6:Int)*vi1)).toNat 64))) (63:Int)).toNat 0).toNat:Int)).toNat])) else none) else none) else(some vb2)
def zfx(fuel:Nat)(bits:Int)(n:Int):Option (List UInt8):=zbt fuel fuel bits n (0:Int) []
noncomputable def zbd:Code:=zaV Tryz.f23
def zs4:Env:=ze0 []
theorem zmz:yQ Tryz.prog zs4:=zbi trivial
theorem zAo(fuel:Nat)(bits:Int)(n:Int)(res:List UInt8)(h:zfx fuel bits n=some res)(C:Ctx)(hC:zaZ C 23 []):
 T Tryz.prog C (at_ zbd []) (mkS [(0,.p (.int .i64 bits)),(1,.p (.int .i64 n))] []) (zAv Tryz.prog C Tryz.f23.results.toList (.p (.bytes res))):=by
 have henv:=zmz
 unfold zfx at h
 refine yE (p:=[]) (by kernel_rfl) ?_
 refine zbg henv hC [] [(0,.p (.int .i64 bits)),(1,.p (.int .i64 n))] [] [] (by kernel_rfl) (by kernel_rfl) trivial (fun s1 hs1=>?_)
 refine(T.weaken ?_ hs1:T Tryz.prog C (at_ zbd [1]) _ _)
 refine yE (p:=[1]) (by kernel_rfl) ?_
 refine zbg henv hC [(5,none)] [(0,.p (.int .i64 bits)),(1,.p (.int .i64 n)),(5,.arr 5)] [(5,.barr 5 false [])] [] (by kernel_rfl) (by kernel_rfl) trivial (fun s1 hs1=>?_)
 refine(T.weaken ?_ hs1:T Tryz.prog C (at_ zbd [1,1]) _ _)
 refine yE (p:=[1,1]) (by kernel_rfl) ?_
 refine yE (p:=[1,1,0]) (by kernel_rfl) ?_
 refine zbg henv hC [(5,some 5)] [(0,.p (.int .i64 bits)),(5,.arr 5),(7,.p (.int .i64 n)),(8,.p (.int .i64 (0:Int)))] [(5,.barr 5 false [])] [] (by kernel_rfl) (by kernel_rfl) trivial (fun s1 hs1=>?_)
 refine(T.weaken ?_ hs1:T Tryz.prog C (at_ zbd [1,1,0,1]) _ _)
 refine zfs (p:=[1,1,0,1]) 0 (by kernel_rfl) ?_
 refine T.weaken ?_ (zbh (l:=[(0,.p (.int .i64 bits)),(5,.arr 5),(7,.p (.int .i64 n)),(8,.p (.int .i64 (0:Int)))]) (o:=[(5,.barr 5 false [])]) hC [(5,some 5)] (by kernel_rfl) (by kernel_rfl) (by kernel_rfl))
 refine zu6 (p:=[1,1,0,1,0]) (by kernel_rfl) (fun f1 s2=>∃ (bits:Int) (n:Int) (vi1:Int) (vb2:List UInt8),s2=mkS [(0,.p (.int .i64 bits)),(5,.arr 5),(7,.p (.int .i64 n)),(8,.p (.int .i64 vi1))] [(5,.barr 5 false vb2)]/\zbt fuel f1 bits n vi1 vb2=some res) ?_ fuel ⟨bits,n,(0:Int),[],rfl,h⟩
 rintro f1 s2 ⟨bits,n,vi1,vb2,rfl,h⟩
 cases f1 with
 | zero=>cases h
 | succ f1=>
  rw[zbt]at h
  refine yE (p:=[1,1,0,1,0,0]) (by kernel_rfl) ?_
  refine zbg henv hC [(5,some 5)] [(0,.p (.int .i64 bits)),(5,.arr 5),(7,.p (.int .i64 n)),(8,.p (.int .i64 vi1)),(9,.p (.bool (decide (vi1<n))))] [(5,.barr 5 false vb2)] [] (by kernel_rfl) (by kernel_rfl) trivial (fun s1 hs1=>?_)
  refine(T.weaken ?_ hs1:T Tryz.prog C (at_ zbd [1,1,0,1,0,0,1]) _ _)
  refine yE (p:=[1,1,0,1,0,0,1]) (by kernel_rfl) ?_
  refine zkd (p:=[1,1,0,1,0,0,1,0]) (by kernel_rfl) (decide (vi1<n)) (by kernel_rfl) (fun hb=>?_) (fun hb=>?_)
  .have h:=zuw h hb
   refine zpr (p:=[1,1,0,1,0,0,1,0,0]) (by kernel_rfl) ?_
   refine(T.weaken ?_ (Sub.refl _):T Tryz.prog C (at_ zbd [1,1,0,1,0,0,1,1]) _ _)
   refine yE (p:=[1,1,0,1,0,0,1,1]) (by kernel_rfl) ?_
   refine zfs (p:=[1,1,0,1,0,0,1,1,0]) 1 (by kernel_rfl) ?_
   refine yE (p:=[1,1,0,1,0,0,1,1,0,0]) (by kernel_rfl) ?_
   refine zbg henv hC [(5,some 5)] [(0,.p (.int .i64 bits)),(5,.arr 5),(6,.p (.int .i64 vi1)),(7,.p (.int .i64 n)),(8,.p (.int .i64 vi1))] [(5,.barr 5 false vb2)] [] (by kernel_rfl) (by kernel_rfl) trivial (fun s1 hs1=>?_)
   refine(T.weaken ?_ hs1:T Tryz.prog C (at_ zbd [1,1,0,1,0,0,1,1,0,0,1]) _ _)
   obtain⟨hob,h⟩:=zfS h
   refine zbg henv hC [(5,some 20)] [(0,.p (.int .i64 bits)),(5,.arr 5),(7,.p (.int .i64 n)),(8,.p (.int .i64 vi1))] [(5,.barr 5 false (vb2++[UInt8.ofNat (((zO.getD (zJ .and .i64 (bits.fdiv (2^(min ((18:Int)-((6:Int)*vi1)).toNat 64))) (63:Int)).toNat 0).toNat:Int)).toNat]))] [zQ ((6:Int)*vi1),zQ ((18:Int)-((6:Int)*vi1)),0<=((18:Int)-((6:Int)*vi1)),0<=(zJ .and .i64 (bits.fdiv (2^(min ((18:Int)-((6:Int)*vi1)).toNat 64))) (63:Int))/\(zJ .and .i64 (bits.fdiv (2^(min ((18:Int)-((6:Int)*vi1)).toNat 64))) (63:Int))<(zO.length:Int),(vb2.length+[UInt8.ofNat (((zO.getD (zJ .and .i64 (bits.fdiv (2^(min ((18:Int)-((6:Int)*vi1)).toNat 64))) (63:Int)).toNat 0).toNat:Int)).toNat].length)*1<=140737488355328] (by kernel_rfl) (by kernel_rfl) ⟨hob.1,hob.2.1,hob.2.2.1,hob.2.2.2.1,hob.2.2.2.2,trivial⟩ (fun s1 hs1=>?_)
   refine(T.weaken ?_ hs1:T Tryz.prog C (at_ zbd [1,1,0,1,0,0,1,1,1]) _ _)
   obtain⟨hob,h⟩:=zfS h
   refine zbg henv hC [(5,some 5)] [(0,.p (.int .i64 bits)),(5,.arr 5),(7,.p (.int .i64 n)),(8,.p (.int .i64 (vi1+(1:Int))))] [(5,.barr 5 false (vb2++[UInt8.ofNat (((zO.getD (zJ .and .i64 (bits.fdiv (2^(min ((18:Int)-((6:Int)*vi1)).toNat 64))) (63:Int)).toNat 0).toNat:Int)).toNat]))] [zQ (vi1+(1:Int))] (by kernel_rfl) (by kernel_rfl) ⟨hob,trivial⟩ (fun s1 hs1=>?_)
   exact⟨f1,_,Nat.lt_succ_self f1,⟨bits,n,vi1+(1:Int),vb2++[UInt8.ofNat (((zO.getD (zJ .and .i64 (bits.fdiv (2^(min ((18:Int)-((6:Int)*vi1)).toNat 64))) (63:Int)).toNat 0).toNat:Int)).toNat],rfl,h⟩,Sub.trans hs1 (zbh hC [(5,some 5)] (by kernel_rfl) (by kernel_rfl) (by kernel_rfl))⟩
  .have h:=zux h hb
   refine zu7 (p:=[1,1,0,1,0,0,1,0,1]) 0 (by kernel_rfl) ?_
   refine zfC ?_
   refine zfC ?_
   refine zjl ?_
   refine(T.weaken ?_ (Sub.refl _):T Tryz.prog C (at_ zbd [1,1,1]) _ _)
   refine yE (p:=[1,1,1]) (by kernel_rfl) ?_
   refine zbg henv hC [(4,some 5)] [(4,.arr 4)] [(4,.barr 5 false vb2)] [] (by kernel_rfl) (by kernel_rfl) trivial (fun s1 hs1=>?_)
   refine(T.weaken ?_ hs1:T Tryz.prog C (at_ zbd [1,1,1,1]) _ _)
   refine zps (p:=[1,1,1,1]) (by kernel_rfl) ?_
   have h:=Option.some.inj h;subst h
   exact⟨mkS [(4,.arr 4)] [(4,.barr 5 false vb2)],(Sub.refl _),by kernel_rfl⟩
theorem zsP(fuel:Nat)(bits:Int)(n:Int)(res:List UInt8)(h:(∃ M vs,ARels γ0 M [.p (.int .i64 bits),.p (.int .i64 n)] vs)->zfx fuel bits n=some res):FnP Tryz.prog 23 [.p (.int .i64 bits),.p (.int .i64 n)] (.p (.bytes res)):=
 zfw (fn:=Tryz.f23) (by kernel_rfl) (by kernel_rfl) fun M vs hvs C hC0=>have hC:zaZ C 23 []:=⟨hC0.nt.trans (by kernel_rfl),hC0.fx⟩;T.weaken (zAo fuel bits n res (h ⟨M,vs,hvs⟩) C hC) (zfF hC (by kernel_rfl) (by kernel_rfl))
abbrev zFm:List UInt8:=zO
def letter(k:Nat):UInt8:=zFm.getD k 0
def zcE(bits:Int)(n:Nat):List UInt8:=(List.range' 0 n).map fun i=>letter (bits.toNat/2^(18-6*i) % 64)
abbrev zji(bits n:Int):Prop:=0<=bits/\bits<16777216/\0<=n/\n<=4
theorem znQ:zO.length=64:=by decide
theorem zBc(x m:Nat)(hx:x<9223372036854775808):zJ .and .i64 ((x:Int).fdiv (2^m)) (63:Int)=((x/2^m % 64:Nat):Int):=by
 have e:(x:Int).fdiv (2^m)=((x/2^m:Nat):Int):=by
  rw[Int.fdiv_eq_ediv_of_nonneg _ (Int.pow_nonneg (by decide))]
  rw[Int.natCast_ediv,Int.natCast_pow];rfl
 have hle:x/2^m<=x:=Nat.div_le_self _ _
 rw[e]
 have:=zB2 (a:=x/2^m) (b:=63) (by omega) (by decide)
 rw[show((63:Int))=((63:Nat):Int) from rfl,this,show(63:Nat)=2^6-1 from rfl,zCR]
theorem zqu(k:Nat):zO.getD k 0=letter k:=rfl
theorem zrD(fuel:Nat)(x n:Nat)(hx:x<16777216)(hn:n<=4):∀ (k f i:Nat) (b:List UInt8),k<f->i+k=n->b.length<=i->
 zbt fuel f (x:Int) (n:Int) (i:Int) b=some (b++(List.range' i k).map fun i=>letter (x/2^(18-6*i) % 64)):=by
 intro k
 induction k with
 | zero=>
  intro f i b hf hi hb
  cases f with
  | zero=>omega
  | succ f=>rw[zbt,if_neg (by simp;omega)];simp
 | succ k ih=>
  intro f i b hf hi hb
  cases f with
  | zero=>omega
  | succ f=>
   have hm:(min ((18:Int)-(6:Int)*(i:Int)).toNat 64)=18-6*i:=by omega
   have hlt:x/2^(18-6*i) % 64<64:=Nat.mod_lt _ (by decide)
   rw[zbt,if_pos (by simp;omega)]
   rw[hm,zBc x _ (by omega)]
   simp only[Int.toNat_natCast,UInt8.ofNat_toNat,zqu,znQ]
   have:=ih f (i+1) (b++[letter (x/2^(18-6*i) % 64)]) (by omega) (by omega) (by simp;omega)
   rw[if_pos ⟨zyp (by omega) (by omega),zyp (by omega) (by omega),by omega,⟨Int.natCast_nonneg _,Int.ofNat_lt.2 hlt⟩,by simp only[List.length_cons,List.length_nil];omega⟩,if_pos (zyp (by omega) (by omega))]
   refine Eq.trans ?_ (this.trans ?_)
   .congr 1
   .rw [List.range'_succ];simp
theorem zrA(bits n:Int)(h:zji bits n):zfx 5 bits n=some (zcE bits n.toNat):=by
 obtain⟨h1,h2,h3,h4⟩:=h
 obtain⟨x,rfl⟩:=Int.eq_ofNat_of_zero_le h1
 obtain⟨m,rfl⟩:=Int.eq_ofNat_of_zero_le h3
 unfold zfx zcE
 exact zrD 5 x m (by omega) (by omega) m 5 0 [] (by omega) (by omega) (by simp)
def zgy:List AV->Option (AV×Option Prop)
 | [.p (.int .i64 bits),.p (.int .i64 n)]=>some (.p (.bytes (zcE bits n.toNat)),some (zji bits n))
 | _=>none
theorem zsr:zaG Tryz.prog 23 zgy:=by
 intro zs r ok h hok
 unfold zgy at h
 split at h
 .cases h;exact⟨by kernel_rfl,zsP 5 _ _ _ fun _=>zrA _ _ hok⟩
 .cases h
def zbE(fuel:Nat)  (vb3:List UInt8):Option (List UInt8):=some vb3
def za6(fuel:Nat) :Nat->List UInt8->List UInt8->Option (List UInt8)
 | 0,_,_=>none
 | f1+1,vs1,vb2=>if(decide ((vs1.length:Int)>=(3:Int)))=true then(if(0<=(0:Int)/\(0:Int)<(vs1.length:Int))/\(0<=(16:Int))/\(0<=(1:Int)/\(1:Int)<(vs1.length:Int))/\(0<=(8:Int))/\(0<=(2:Int)/\(2:Int)<(vs1.length:Int))/\(zji (zJ .or .i64 (zJ .or .i64 (IntKind.i64.wrap (((vs1.getD ((0:Int)).toNat 0).toNat:Int)*2^(min ((16:Int)).toNat 64))) (IntKind.i64.wrap (((vs1.getD ((1:Int)).toNat 0).toNat:Int)*2^(min ((8:Int)).toNat 64)))) ((vs1.getD ((2:Int)).toNat 0).toNat:Int)) (4:Int))/\((vb2.length+(zcE (zJ .or .i64 (zJ .or .i64 (IntKind.i64.wrap (((vs1.getD ((0:Int)).toNat 0).toNat:Int)*2^(min ((16:Int)).toNat 64))) (IntKind.i64.wrap (((vs1.getD ((1:Int)).toNat 0).toNat:Int)*2^(min ((8:Int)).toNat 64)))) ((vs1.getD ((2:Int)).toNat 0).toNat:Int)) ((4:Int)).toNat).length)*1<=140737488355328) then(if 0<=(3:Int)/\(3:Int)<=(vs1.length:Int) then(za6 fuel f1 (vs1.drop ((3:Int)).toNat) (vb2++(zcE (zJ .or .i64 (zJ .or .i64 (IntKind.i64.wrap (((vs1.getD ((0:Int)).toNat 0).toNat:Int)*2^(min ((16:Int)).toNat 64))) (IntKind.i64.wrap (((vs1.getD ((1:Int)).toNat 0).toNat:Int)*2^(min ((8:Int)).toNat 64)))) ((vs1.getD ((2:Int)).toNat 0).toNat:Int)) ((4:Int)).toNat))) else none) else none) else(if((vs1.length:Int)==(1:Int))=true then(if(0<=(0:Int)/\(0:Int)<(vs1.length:Int))/\(0<=(16:Int))/\(zji (IntKind.i64.wrap (((vs1.getD ((0:Int)).toNat 0).toNat:Int)*2^(min ((16:Int)).toNat 64))) (2:Int))/\((vb2.length+(zcE (IntKind.i64.wrap (((vs1.getD ((0:Int)).toNat 0).toNat:Int)*2^(min ((16:Int)).toNat 64))) ((2:Int)).toNat).length)*1<=140737488355328)/\(((vb2++(zcE (IntKind.i64.wrap (((vs1.getD ((0:Int)).toNat 0).toNat:Int)*2^(min ((16:Int)).toNat 64))) ((2:Int)).toNat)).length+([61,61]:List UInt8).length)*1<=140737488355328) then(zbE fuel ((vb2++(zcE (IntKind.i64.wrap (((vs1.getD ((0:Int)).toNat 0).toNat:Int)*2^(min ((16:Int)).toNat 64))) ((2:Int)).toNat))++([61,61]:List UInt8))) else none) else(if((vs1.length:Int)==(2:Int))=true then(if(0<=(0:Int)/\(0:Int)<(vs1.length:Int))/\(0<=(16:Int))/\(0<=(1:Int)/\(1:Int)<(vs1.length:Int))/\(0<=(8:Int))/\(zji (zJ .or .i64 (IntKind.i64.wrap (((vs1.getD ((0:Int)).toNat 0).toNat:Int)*2^(min ((16:Int)).toNat 64))) (IntKind.i64.wrap (((vs1.getD ((1:Int)).toNat 0).toNat:Int)*2^(min ((8:Int)).toNat 64)))) (3:Int))/\((vb2.length+(zcE (zJ .or .i64 (IntKind.i64.wrap (((vs1.getD ((0:Int)).toNat 0).toNat:Int)*2^(min ((16:Int)).toNat 64))) (IntKind.i64.wrap (((vs1.getD ((1:Int)).toNat 0).toNat:Int)*2^(min ((8:Int)).toNat 64)))) ((3:Int)).toNat).length)*1<=140737488355328)/\(((vb2++(zcE (zJ .or .i64 (IntKind.i64.wrap (((vs1.getD ((0:Int)).toNat 0).toNat:Int)*2^(min ((16:Int)).toNat 64))) (IntKind.i64.wrap (((vs1.getD ((1:Int)).toNat 0).toNat:Int)*2^(min ((8:Int)).toNat 64)))) ((3:Int)).toNat)).length+[UInt8.ofNat ((61:Int)).toNat].length)*1<=140737488355328) then(zbE fuel ((vb2++(zcE (zJ .or .i64 (IntKind.i64.wrap (((vs1.getD ((0:Int)).toNat 0).toNat:Int)*2^(min ((16:Int)).toNat 64))) (IntKind.i64.wrap (((vs1.getD ((1:Int)).toNat 0).toNat:Int)*2^(min ((8:Int)).toNat 64)))) ((3:Int)).toNat))++[UInt8.ofNat ((61:Int)).toNat])) else none) else(zbE fuel vb2)))
def zh1(fuel:Nat)(s:List UInt8):Option (List UInt8):=za6 fuel fuel s []
noncomputable def zbl:Code:=zaV Tryz.f10
def zws:Env:=ze0 [(23,zgy)]
theorem zo3:yQ Tryz.prog zws:=zbi ⟨zsr.any,trivial⟩
def zs3:zaK:=zgI []
theorem zmy:zal Tryz.prog zs3:=zb7 trivial
theorem zCV(fuel:Nat)(s:List UInt8)(res:List UInt8)(h:zh1 fuel s=some res)(C:Ctx)(hC:zaZ C 55 []):
 T Tryz.prog C (at_ zbl []) (mkS [(0,.p (.str s))] []) (zAv Tryz.prog C Tryz.f10.results.toList (.p (.str res))):=by
 have henv:=zo3
 have henvR:=zmy
 have hmx:Tryz.prog.follows .mixedOrders=true:=zek
 unfold zh1 at h
 refine yE (p:=[]) (by kernel_rfl) ?_
 refine zbg henv hC [] [(0,.p (.str s))] [] [] (by kernel_rfl) (by kernel_rfl) trivial (fun s1 hs1=>?_)
 refine(T.weaken ?_ hs1:T Tryz.prog C (at_ zbl [1]) _ _)
 refine yE (p:=[1]) (by kernel_rfl) ?_
 refine zbg henv hC [(3,none)] [(0,.p (.str s)),(3,.arr 3)] [(3,.barr 5 false [])] [] (by kernel_rfl) (by kernel_rfl) trivial (fun s1 hs1=>?_)
 refine(T.weaken ?_ hs1:T Tryz.prog C (at_ zbl [1,1]) _ _)
 refine yE (p:=[1,1]) (by kernel_rfl) ?_
 refine zfs (p:=[1,1,0]) 0 (by kernel_rfl) ?_
 refine T.weaken ?_ (zbh (l:=[(0,.p (.str s)),(3,.arr 3)]) (o:=[(3,.barr 5 false [])]) hC [(3,some 3)] (by kernel_rfl) (by kernel_rfl) (by kernel_rfl))
 refine zu6 (p:=[1,1,0,0]) (by kernel_rfl) (fun f1 s2=>∃ (vs1:List UInt8) (vb2:List UInt8),s2=mkS [(0,.p (.str vs1)),(3,.arr 3)] [(3,.barr 5 false vb2)]/\za6 fuel f1 vs1 vb2=some res) ?_ fuel ⟨s,[],rfl,h⟩
 rintro f1 s2 ⟨vs1,vb2,rfl,h⟩
 cases f1 with
 | zero=>cases h
 | succ f1=>
  rw[za6]at h
  refine yE (p:=[1,1,0,0,0]) (by kernel_rfl) ?_
  refine yE (p:=[1,1,0,0,0,0]) (by kernel_rfl) ?_
  refine zbg henv hC [(3,some 3)] [(0,.p (.str vs1)),(3,.arr 3),(6,.p (.bool (decide ((vs1.length:Int)>=(3:Int)))))] [(3,.barr 5 false vb2)] [] (by kernel_rfl) (by kernel_rfl) trivial (fun s1 hs1=>?_)
  refine(T.weaken ?_ hs1:T Tryz.prog C (at_ zbl [1,1,0,0,0,0,1]) _ _)
  refine zkd (p:=[1,1,0,0,0,0,1]) (by kernel_rfl) (decide ((vs1.length:Int)>=(3:Int))) (by kernel_rfl) (fun hb=>?_) (fun hb=>?_)
  .have h:=zuw h hb
   refine zpr (p:=[1,1,0,0,0,0,1,0]) (by kernel_rfl) ?_
   refine(T.weaken ?_ (Sub.refl _):T Tryz.prog C (at_ zbl [1,1,0,0,0,1]) _ _)
   refine zfs (p:=[1,1,0,0,0,1]) 1 (by kernel_rfl) ?_
   refine yE (p:=[1,1,0,0,0,1,0]) (by kernel_rfl) ?_
   obtain⟨hob,h⟩:=zfS h
   refine zu5 henv henvR hmx hC [] [(3,some 22)] [(0,.p (.str vs1)),(3,.arr 3)] [(3,.barr 5 false (vb2++(zcE (zJ .or .i64 (zJ .or .i64 (IntKind.i64.wrap (((vs1.getD ((0:Int)).toNat 0).toNat:Int)*2^(min ((16:Int)).toNat 64))) (IntKind.i64.wrap (((vs1.getD ((1:Int)).toNat 0).toNat:Int)*2^(min ((8:Int)).toNat 64)))) ((vs1.getD ((2:Int)).toNat 0).toNat:Int)) ((4:Int)).toNat)))] [0<=(0:Int)/\(0:Int)<(vs1.length:Int),0<=(16:Int),0<=(1:Int)/\(1:Int)<(vs1.length:Int),0<=(8:Int),0<=(2:Int)/\(2:Int)<(vs1.length:Int),zji (zJ .or .i64 (zJ .or .i64 (IntKind.i64.wrap (((vs1.getD ((0:Int)).toNat 0).toNat:Int)*2^(min ((16:Int)).toNat 64))) (IntKind.i64.wrap (((vs1.getD ((1:Int)).toNat 0).toNat:Int)*2^(min ((8:Int)).toNat 64)))) ((vs1.getD ((2:Int)).toNat 0).toNat:Int)) (4:Int),(vb2.length+(zcE (zJ .or .i64 (zJ .or .i64 (IntKind.i64.wrap (((vs1.getD ((0:Int)).toNat 0).toNat:Int)*2^(min ((16:Int)).toNat 64))) (IntKind.i64.wrap (((vs1.getD ((1:Int)).toNat 0).toNat:Int)*2^(min ((8:Int)).toNat 64)))) ((vs1.getD ((2:Int)).toNat 0).toNat:Int)) ((4:Int)).toNat).length)*1<=140737488355328] (by kernel_rfl) (by kernel_rfl) (by kernel_rfl) ⟨hob.1,hob.2.1,hob.2.2.1,hob.2.2.2.1,hob.2.2.2.2.1,hob.2.2.2.2.2.1,hob.2.2.2.2.2.2,trivial⟩ (fun s1 hs1=>?_)
   refine(T.weaken ?_ hs1:T Tryz.prog C (at_ zbl [1,1,0,0,0,1,0,1]) _ _)
   obtain⟨hob,h⟩:=zfS h
   refine zbg henv hC [(3,some 3)] [(0,.p (.str (vs1.drop ((3:Int)).toNat))),(3,.arr 3)] [(3,.barr 5 false (vb2++(zcE (zJ .or .i64 (zJ .or .i64 (IntKind.i64.wrap (((vs1.getD ((0:Int)).toNat 0).toNat:Int)*2^(min ((16:Int)).toNat 64))) (IntKind.i64.wrap (((vs1.getD ((1:Int)).toNat 0).toNat:Int)*2^(min ((8:Int)).toNat 64)))) ((vs1.getD ((2:Int)).toNat 0).toNat:Int)) ((4:Int)).toNat)))] [0<=(3:Int)/\(3:Int)<=(vs1.length:Int)] (by kernel_rfl) (by kernel_rfl) ⟨hob,trivial⟩ (fun s1 hs1=>?_)
   exact⟨f1,_,Nat.lt_succ_self f1,⟨vs1.drop ((3:Int)).toNat,vb2++(zcE (zJ .or .i64 (zJ .or .i64 (IntKind.i64.wrap (((vs1.getD ((0:Int)).toNat 0).toNat:Int)*2^(min ((16:Int)).toNat 64))) (IntKind.i64.wrap (((vs1.getD ((1:Int)).toNat 0).toNat:Int)*2^(min ((8:Int)).toNat 64)))) ((vs1.getD ((2:Int)).toNat 0).toNat:Int)) ((4:Int)).toNat),rfl,h⟩,Sub.trans hs1 (zbh hC [(3,some 3)] (by kernel_rfl) (by kernel_rfl) (by kernel_rfl))⟩
  .have h:=zux h hb
   refine zu7 (p:=[1,1,0,0,0,0,1,1]) 0 (by kernel_rfl) ?_
   refine zfC ?_
   refine zfC ?_
   refine zjl ?_
   refine(T.weaken ?_ (Sub.refl _):T Tryz.prog C (at_ zbl [1,1,1]) _ _)
   refine zFn (p:=[1,1,1]) (by kernel_rfl) (fun s2=>∃ (vb3:List UInt8),zbE fuel vb3=some res/\Sub C s2 (mkS [(3,.arr 3)] [(3,.barr 5 false vb3)])) ?_ ?_
   .refine yE (p:=[1,1,1,0]) (by kernel_rfl) ?_
    refine zbg henv hC [(3,some 3)] [(0,.p (.str vs1)),(3,.arr 3),(26,.p (.int .i64 (vs1.length:Int)))] [(3,.barr 5 false vb2)] [] (by kernel_rfl) (by kernel_rfl) trivial (fun s1 hs1=>?_)
    refine(T.weaken ?_ hs1:T Tryz.prog C (at_ zbl [1,1,1,0,1]) _ _)
    refine zfs (p:=[1,1,1,0,1]) 2 (by kernel_rfl) ?_
    refine yE (p:=[1,1,1,0,1,0]) (by kernel_rfl) ?_
    refine zbg henv hC [(3,some 3)] [(0,.p (.str vs1)),(3,.arr 3),(26,.p (.int .i64 (vs1.length:Int))),(27,.p (.bool ((vs1.length:Int)==(1:Int))))] [(3,.barr 5 false vb2)] [] (by kernel_rfl) (by kernel_rfl) trivial (fun s1 hs1=>?_)
    refine(T.weaken ?_ hs1:T Tryz.prog C (at_ zbl [1,1,1,0,1,0,1]) _ _)
    refine zkd (p:=[1,1,1,0,1,0,1]) (by kernel_rfl) ((vs1.length:Int)==(1:Int)) (by kernel_rfl) (fun hb=>?_) (fun hb=>?_)
    .have h:=zuw h hb
     obtain⟨hob,h⟩:=zfS h
     refine zbg henv hC [(3,some 36)] [(3,.arr 3)] [(3,.barr 5 false ((vb2++(zcE (IntKind.i64.wrap (((vs1.getD ((0:Int)).toNat 0).toNat:Int)*2^(min ((16:Int)).toNat 64))) ((2:Int)).toNat))++([61,61]:List UInt8)))] [0<=(0:Int)/\(0:Int)<(vs1.length:Int),0<=(16:Int),zji (IntKind.i64.wrap (((vs1.getD ((0:Int)).toNat 0).toNat:Int)*2^(min ((16:Int)).toNat 64))) (2:Int),(vb2.length+(zcE (IntKind.i64.wrap (((vs1.getD ((0:Int)).toNat 0).toNat:Int)*2^(min ((16:Int)).toNat 64))) ((2:Int)).toNat).length)*1<=140737488355328,((vb2++(zcE (IntKind.i64.wrap (((vs1.getD ((0:Int)).toNat 0).toNat:Int)*2^(min ((16:Int)).toNat 64))) ((2:Int)).toNat)).length+([61,61]:List UInt8).length)*1<=140737488355328] (by kernel_rfl) (by kernel_rfl) ⟨hob.1,hob.2.1,hob.2.2.1,hob.2.2.2.1,hob.2.2.2.2,trivial⟩ (fun s1 hs1=>?_)
     exact⟨(vb2++(zcE (IntKind.i64.wrap (((vs1.getD ((0:Int)).toNat 0).toNat:Int)*2^(min ((16:Int)).toNat 64))) ((2:Int)).toNat))++([61,61]:List UInt8),h,Sub.trans hs1 (zbh hC [(3,some 3)] (by kernel_rfl) (by kernel_rfl) (by kernel_rfl))⟩
    .have h:=zux h hb
     refine yE (p:=[1,1,1,0,1,0,1,1]) (by kernel_rfl) ?_
     refine zbg henv hC [(3,some 3)] [(0,.p (.str vs1)),(3,.arr 3),(37,.p (.bool ((vs1.length:Int)==(2:Int))))] [(3,.barr 5 false vb2)] [] (by kernel_rfl) (by kernel_rfl) trivial (fun s1 hs1=>?_)
     refine(T.weaken ?_ hs1:T Tryz.prog C (at_ zbl [1,1,1,0,1,0,1,1,1]) _ _)
     refine zkd (p:=[1,1,1,0,1,0,1,1,1]) (by kernel_rfl) ((vs1.length:Int)==(2:Int)) (by kernel_rfl) (fun hb=>?_) (fun hb=>?_)
     .have h:=zuw h hb
      obtain⟨hob,h⟩:=zfS h
      refine zu5 henv henvR hmx hC [] [(3,some 52)] [(3,.arr 3)] [(3,.barr 5 false ((vb2++(zcE (zJ .or .i64 (IntKind.i64.wrap (((vs1.getD ((0:Int)).toNat 0).toNat:Int)*2^(min ((16:Int)).toNat 64))) (IntKind.i64.wrap (((vs1.getD ((1:Int)).toNat 0).toNat:Int)*2^(min ((8:Int)).toNat 64)))) ((3:Int)).toNat))++[UInt8.ofNat ((61:Int)).toNat]))] [0<=(0:Int)/\(0:Int)<(vs1.length:Int),0<=(16:Int),0<=(1:Int)/\(1:Int)<(vs1.length:Int),0<=(8:Int),zji (zJ .or .i64 (IntKind.i64.wrap (((vs1.getD ((0:Int)).toNat 0).toNat:Int)*2^(min ((16:Int)).toNat 64))) (IntKind.i64.wrap (((vs1.getD ((1:Int)).toNat 0).toNat:Int)*2^(min ((8:Int)).toNat 64)))) (3:Int),(vb2.length+(zcE (zJ .or .i64 (IntKind.i64.wrap (((vs1.getD ((0:Int)).toNat 0).toNat:Int)*2^(min ((16:Int)).toNat 64))) (IntKind.i64.wrap (((vs1.getD ((1:Int)).toNat 0).toNat:Int)*2^(min ((8:Int)).toNat 64)))) ((3:Int)).toNat).length)*1<=140737488355328,((vb2++(zcE (zJ .or .i64 (IntKind.i64.wrap (((vs1.getD ((0:Int)).toNat 0).toNat:Int)*2^(min ((16:Int)).toNat 64))) (IntKind.i64.wrap (((vs1.getD ((1:Int)).toNat 0).toNat:Int)*2^(min ((8:Int)).toNat 64)))) ((3:Int)).toNat)).length+[UInt8.ofNat ((61:Int)).toNat].length)*1<=140737488355328] (by kernel_rfl) (by kernel_rfl) (by kernel_rfl) ⟨hob.1,hob.2.1,hob.2.2.1,hob.2.2.2.1,hob.2.2.2.2.1,hob.2.2.2.2.2.1,hob.2.2.2.2.2.2,trivial⟩ (fun s1 hs1=>?_)
      exact⟨(vb2++(zcE (zJ .or .i64 (IntKind.i64.wrap (((vs1.getD ((0:Int)).toNat 0).toNat:Int)*2^(min ((16:Int)).toNat 64))) (IntKind.i64.wrap (((vs1.getD ((1:Int)).toNat 0).toNat:Int)*2^(min ((8:Int)).toNat 64)))) ((3:Int)).toNat))++[UInt8.ofNat ((61:Int)).toNat],h,Sub.trans hs1 (zbh hC [(3,some 3)] (by kernel_rfl) (by kernel_rfl) (by kernel_rfl))⟩
     .have h:=zux h hb
      refine zpr (p:=[1,1,1,0,1,0,1,1,1,1]) (by kernel_rfl) ?_
      exact⟨vb2,h,Sub.trans (Sub.refl _) (zbh hC [(3,some 3)] (by kernel_rfl) (by kernel_rfl) (by kernel_rfl))⟩
   .rintro s2 ⟨vb3,h,hs2⟩
    unfold zbE at h
    refine(T.weaken ?_ hs2:T Tryz.prog C (at_ zbl [1,1,1,1]) _ _)
    refine yE (p:=[1,1,1,1]) (by kernel_rfl) ?_
    refine zbg henv hC [] [(2,.p (.str vb3))] [] [] (by kernel_rfl) (by kernel_rfl) trivial (fun s1 hs1=>?_)
    refine(T.weaken ?_ hs1:T Tryz.prog C (at_ zbl [1,1,1,1,1]) _ _)
    refine zps (p:=[1,1,1,1,1]) (by kernel_rfl) ?_
    have h:=Option.some.inj h;subst h
    exact⟨mkS [(2,.p (.str vb3))] [],(Sub.refl _),by kernel_rfl⟩
theorem zv9(fuel:Nat)(s:List UInt8)(res:List UInt8)(h:(∃ M vs,ARels γ0 M [.p (.str s)] vs)->zh1 fuel s=some res):FnP Tryz.prog 10 [.p (.str s)] (.p (.str res)):=
 zfw (fn:=Tryz.f10) (by kernel_rfl) (by kernel_rfl) fun M vs hvs C hC0=>have hC:zaZ C 55 []:=⟨hC0.nt.trans (by kernel_rfl),hC0.fx⟩;T.weaken (zCV fuel s res (h ⟨M,vs,hvs⟩) C hC) (zfF hC (by kernel_rfl) (by kernel_rfl))
def zc1(a b c:UInt8):Nat:=a.toNat*65536+b.toNat*256+c.toNat
def lets(x n:Nat):List UInt8:=(List.range' 0 n).map fun i=>letter (x/2^(18-6*i) % 64)
theorem zoA(x n:Nat):zcE (x:Int) n=lets x n:=rfl
theorem zbN(x n:Nat):(lets x n).length=n:=by simp[lets]
def encB:List UInt8->List UInt8
 | a::b::c::r=>lets (zc1 a b c) 4++encB r
 | [a,b]=>lets (zc1 a b 0) 3++[61]
 | [a]=>lets (zc1 a 0 0) 2++[61,61]
 | []=>[]
theorem zHB(a b c:UInt8):zJ .or .i64 (zJ .or .i64 (IntKind.i64.wrap ((a.toNat:Int)*2^(min ((16:Int)).toNat 64))) (IntKind.i64.wrap ((b.toNat:Int)*2^(min ((8:Int)).toNat 64)))) (c.toNat:Int)=(zc1 a b c:Nat):=by
 have ha:=a.toNat_lt
 have hb:=b.toNat_lt
 have hc:=c.toNat_lt
 have e1:(2:Int)^(min ((16:Int)).toNat 64)=65536:=rfl
 have e2:(2:Int)^(min ((8:Int)).toNat 64)=256:=rfl
 rw[e1,e2,zbA (by omega) (by omega),zbA (by omega) (by omega)]
 rw[show(a.toNat:Int)*65536=((a.toNat*65536:Nat):Int) by simp,show(b.toNat:Int)*256=((b.toNat*256:Nat):Int) by simp]
 have o1:(a.toNat*65536)||| (b.toNat*256)=a.toNat*65536+b.toNat*256:=zou a.toNat (b.toNat*256) 16 (by omega)
 have o2:(a.toNat*65536+b.toNat*256)||| c.toNat=zc1 a b c:=by
  have:=zou (a.toNat*256+b.toNat) c.toNat 8 (by omega)
  unfold zc1
  rw[show a.toNat*65536+b.toNat*256=(a.toNat*256+b.toNat)*2^8 by omega,this]
 rw[zoK (by omega) (by omega),o1,zoK (by omega) (by omega),o2]
theorem zHC(a b:UInt8):zJ .or .i64 (IntKind.i64.wrap ((a.toNat:Int)*2^(min ((16:Int)).toNat 64))) (IntKind.i64.wrap ((b.toNat:Int)*2^(min ((8:Int)).toNat 64)))=(zc1 a b 0:Nat):=by
 have ha:=a.toNat_lt
 have hb:=b.toNat_lt
 have e1:(2:Int)^(min ((16:Int)).toNat 64)=65536:=rfl
 have e2:(2:Int)^(min ((8:Int)).toNat 64)=256:=rfl
 rw[e1,e2,zbA (by omega) (by omega),zbA (by omega) (by omega)]
 rw[show(a.toNat:Int)*65536=((a.toNat*65536:Nat):Int) by simp,show(b.toNat:Int)*256=((b.toNat*256:Nat):Int) by simp]
 have o1:(a.toNat*65536)||| (b.toNat*256)=a.toNat*65536+b.toNat*256:=zou a.toNat (b.toNat*256) 16 (by omega)
 rw[zoK (by omega) (by omega),o1]
 have z:(0:UInt8).toNat=0:=by decide
 unfold zc1
 rw[z,Nat.add_zero]
theorem zHD(a:UInt8):IntKind.i64.wrap ((a.toNat:Int)*2^(min ((16:Int)).toNat 64))=(zc1 a 0 0:Nat):=by
 have ha:=a.toNat_lt
 have e1:(2:Int)^(min ((16:Int)).toNat 64)=65536:=rfl
 rw[e1,zbA (by omega) (by omega)]
 have z:(0:UInt8).toNat=0:=by decide
 unfold zc1
 rw[z]
 omega
theorem zfN(a b c:UInt8):zc1 a b c<16777216:=by
 have ha:=a.toNat_lt
 have hb:=b.toNat_lt
 have hc:=c.toNat_lt
 unfold zc1;omega
theorem ztP(fuel:Nat):∀ (f:Nat) (s b:List UInt8),s.length<f->b.length+2*s.length<=100000000->za6 fuel f s b=some (b++encB s):=by
 intro f
 induction f with
 | zero=>intro s b h;omega
 | succ f ih=>
  intro s b h h2
  match s,h,h2 with
  | a::c::d::r,h,h2=>
   simp only[List.length_cons]at h h2
   have l:=zfN a c d
   rw[za6,if_pos (by simp;omega)]
   have g0:(a::c::d::r).getD ((0:Int)).toNat 0=a:=rfl
   have g1:(a::c::d::r).getD ((1:Int)).toNat 0=c:=rfl
   have g2:(a::c::d::r).getD ((2:Int)).toNat 0=d:=rfl
   have g3:(a::c::d::r).drop ((3:Int)).toNat=r:=rfl
   have g4:((4:Int)).toNat=4:=rfl
   rw[g0,g1,g2,zHB,g3,g4,zoA]
   rw[if_pos ⟨by simp;omega,by omega,by simp;omega,by omega,by simp;omega,⟨by omega,by omega,by omega,by omega⟩,by rw[zbN];omega⟩,if_pos (by simp;omega)]
   rw[ih r _ (by omega) (by simp[zbN];omega),encB]
   simp
  | [a,c],h,h2=>
   simp only[List.length_cons,List.length_nil]at h h2
   have l:=zfN a c 0
   rw[za6,if_neg (by simp),if_neg (by simp),if_pos (by simp)]
   have g0:[a,c].getD ((0:Int)).toNat 0=a:=rfl
   have g1:[a,c].getD ((1:Int)).toNat 0=c:=rfl
   have g4:((3:Int)).toNat=3:=rfl
   rw[g0,g1,zHC,g4,zoA]
   rw[if_pos ⟨by simp,by omega,by simp,by omega,⟨by omega,by omega,by omega,by omega⟩,by rw[zbN];omega,by simp[zbN];omega⟩]
   unfold zbE
   rw[encB];simp
  | [a],h,h2=>
   simp only[List.length_cons,List.length_nil]at h h2
   have l:=zfN a 0 0
   rw[za6,if_neg (by simp),if_pos (by simp)]
   have g0:[a].getD ((0:Int)).toNat 0=a:=rfl
   have g4:((2:Int)).toNat=2:=rfl
   rw[g0,zHD,g4,zoA]
   rw[if_pos ⟨by simp,by omega,⟨by omega,by omega,by omega,by omega⟩,by rw[zbN];omega,by simp[zbN];omega⟩]
   unfold zbE
   rw[encB];simp
  | [],h,h2=>
   rw[za6,if_neg (by simp),if_neg (by simp),if_neg (by simp),encB]
   unfold zbE
   simp
theorem zwU(s:List UInt8)(hs:s.length<=1000000):zh1 1000001 s=some (encB s):=by
 have:=ztP 1000001 1000001 s [] (by omega) (by simp;omega)
 simpa[zh1]using this
def ixS(s:List UInt8)(c:Int):Int:=Lib.indexByte s c.toNat.toUInt8
def zcR:List AV->Option (AV×Option Prop)
 | [.p (.str s),.p (.int .u8 c)]=>some (.p (.int .i64 (ixS s c)),none)
 | _=>none
theorem zeo(l:List UInt8)(c:UInt8):Lib.indexByte l c<l.length\/Lib.indexByte l c=-1:=by
 induction l with
 | nil=>right;rfl
 | cons b l ih=>
  unfold Lib.indexByte
  split
  .left;simp
  .split
   .right;rfl
   .left;rename_i h1 h2;simp at h2;simp;omega
theorem zym:zpt Tryz.prog 382 zcR:=by
 intro zs r ok h hok M w vs hM hvs
 unfold zcR at h
 split at h
 .rename_i s c
  cases h
  cases hvs with
  | cons h1 h2=>cases h2 with
   | cons h2 h3=>
    cases h3
    cases h1 with|p _ _ h1=>
    cases h2 with|p _ _ h2=>
    cases h1 with|str _ hs=>
    cases h2 with|int _ _ hc=>
    refine⟨.int .i64 (ixS s c),?_,.p _ _ (.int _ _ ?_)⟩
    .rw [run_callFunc_extern (fn:=Tryz.f382) (e:=Extern.BytealgIndexByte.indexByte) (by kernel_rfl) (by kernel_rfl) (by kernel_rfl) (by kernel_rfl) (by kernel_rfl)]
     rw[Lib.run_indexByteString];rfl
    .have h1:=Lib.indexByte_ge s c.toNat.toUInt8
     have h2:=zeo s c.toNat.toUInt8
     exact zfY (by unfold maxLen at hs;unfold zQ ixS;omega)
 .cases h
def zAJ(fuel:Nat)(s:List UInt8)(c:Int):Option Int:=some (ixS s c)
noncomputable def zz0:Code:=zaV Tryz.f210
def zCr:Env:=ze0 [(382,zcR)]
theorem zs5:yQ Tryz.prog zCr:=zbi ⟨zym.any,trivial⟩
theorem zHG(fuel:Nat)(s:List UInt8)(c:Int)(res:Int)(h:zAJ fuel s c=some res)(C:Ctx)(hC:zaZ C 8 []):
 T Tryz.prog C (at_ zz0 []) (mkS [(0,.p (.str s)),(1,.p (.int .u8 c))] []) (zAv Tryz.prog C Tryz.f210.results.toList (.p (.int .i64 res))):=by
 have henv:=zs5
 unfold zAJ at h
 refine yE (p:=[]) (by kernel_rfl) ?_
 refine zbg henv hC [] [(0,.p (.str s)),(1,.p (.int .u8 c))] [] [] (by kernel_rfl) (by kernel_rfl) trivial (fun s1 hs1=>?_)
 refine(T.weaken ?_ hs1:T Tryz.prog C (at_ zz0 [1]) _ _)
 refine yE (p:=[1]) (by kernel_rfl) ?_
 refine zbg henv hC [] [(4,.p (.int .i64 (ixS s c)))] [] [] (by kernel_rfl) (by kernel_rfl) trivial (fun s1 hs1=>?_)
 refine(T.weaken ?_ hs1:T Tryz.prog C (at_ zz0 [1,1]) _ _)
 refine zps (p:=[1,1]) (by kernel_rfl) ?_
 have h:=Option.some.inj h;subst h
 exact⟨mkS [(4,.p (.int .i64 (ixS s c)))] [],(Sub.refl _),by kernel_rfl⟩
theorem zCd(fuel:Nat)(s:List UInt8)(c:Int)(res:Int)(h:(∃ M vs,ARels γ0 M [.p (.str s),.p (.int .u8 c)] vs)->zAJ fuel s c=some res):FnP Tryz.prog 210 [.p (.str s),.p (.int .u8 c)] (.p (.int .i64 res)):=
 zfw (fn:=Tryz.f210) (by kernel_rfl) (by kernel_rfl) fun M vs hvs C hC0=>have hC:zaZ C 8 []:=⟨hC0.nt.trans (by kernel_rfl),hC0.fx⟩;T.weaken (zHG fuel s c res (h ⟨M,vs,hvs⟩) C hC) (zfF hC (by kernel_rfl) (by kernel_rfl))
def zjV:List AV->Option (AV×Option Prop):=zcR
theorem zuf:zaG Tryz.prog 210 zjV:=by
 intro zs r ok h hok
 unfold zjV zcR at h
 split at h
 .cases h;exact⟨by kernel_rfl,zCd 0 _ _ _ fun _=>rfl⟩
 .cases h
def zFw(fuel:Nat)(s:List UInt8)(c:Int):Option Int:=some (ixS s c)
noncomputable def zE8:Code:=zaV Tryz.f104
def zE0:Env:=ze0 [(210,zjV)]
theorem zwr:yQ Tryz.prog zE0:=zbi ⟨zuf.any,trivial⟩
theorem Tixb(fuel:Nat)(s:List UInt8)(c:Int)(res:Int)(h:zFw fuel s c=some res)(C:Ctx)(hC:zaZ C 8 []):
 T Tryz.prog C (at_ zE8 []) (mkS [(0,.p (.str s)),(1,.p (.int .u8 c))] []) (zAv Tryz.prog C Tryz.f104.results.toList (.p (.int .i64 res))):=by
 have henv:=zwr
 unfold zFw at h
 refine yE (p:=[]) (by kernel_rfl) ?_
 refine zbg henv hC [] [(0,.p (.str s)),(1,.p (.int .u8 c))] [] [] (by kernel_rfl) (by kernel_rfl) trivial (fun s1 hs1=>?_)
 refine(T.weaken ?_ hs1:T Tryz.prog C (at_ zE8 [1]) _ _)
 refine yE (p:=[1]) (by kernel_rfl) ?_
 refine zbg henv hC [] [(4,.p (.int .i64 (ixS s c)))] [] [] (by kernel_rfl) (by kernel_rfl) trivial (fun s1 hs1=>?_)
 refine(T.weaken ?_ hs1:T Tryz.prog C (at_ zE8 [1,1]) _ _)
 refine zps (p:=[1,1]) (by kernel_rfl) ?_
 have h:=Option.some.inj h;subst h
 exact⟨mkS [(4,.p (.int .i64 (ixS s c)))] [],(Sub.refl _),by kernel_rfl⟩
theorem zEP(fuel:Nat)(s:List UInt8)(c:Int)(res:Int)(h:(∃ M vs,ARels γ0 M [.p (.str s),.p (.int .u8 c)] vs)->zFw fuel s c=some res):FnP Tryz.prog 104 [.p (.str s),.p (.int .u8 c)] (.p (.int .i64 res)):=
 zfw (fn:=Tryz.f104) (by kernel_rfl) (by kernel_rfl) fun M vs hvs C hC0=>have hC:zaZ C 8 []:=⟨hC0.nt.trans (by kernel_rfl),hC0.fx⟩;T.weaken (Tixb fuel s c res (h ⟨M,vs,hvs⟩) C hC) (zfF hC (by kernel_rfl) (by kernel_rfl))
def zkE:List AV->Option (AV×Option Prop):=zcR
theorem zyk:zaG Tryz.prog 104 zkE:=by
 intro zs r ok h hok
 unfold zkE zcR at h
 split at h
 .cases h;exact⟨by kernel_rfl,zEP 0 _ _ _ fun _=>rfl⟩
 .cases h
noncomputable def zfv:=mkG [(104,zkE)] [] 65 [] [([0,1,0,1,1,1],⟨[0,3,4,5,9,10],[⟨.slot 3,3,(.barr 5 false [])⟩]⟩),([1,1,1,1,1,0,0,1,1,0,0,1,0,1,1,1],⟨[0,3,4,5,9,10],[⟨.slot 3,3,(.barr 5 false [])⟩]⟩),([1,0,1,1,1,1,1,1,1,0,0,1,1,0,0,1,0,1,1,1],⟨[0,3,9,10],[⟨.slot 3,3,(.barr 5 false [])⟩]⟩),([1,1,1,0,0,1,0,1,1,1],⟨[0,3,4,5,9,10],[⟨.slot 3,3,(.barr 5 false [])⟩]⟩),([1,1,1,1],⟨[3,4,5],[⟨.slot 3,3,(.barr 5 false [])⟩]⟩),([1,1,1,1,1],⟨[3],[⟨.slot 3,3,(.barr 5 false [])⟩]⟩)] []
noncomputable def zh7(F f1:Nat)(s:List UInt8)(vi1 vi2 vi3 vi4:Int)(vb5:List UInt8):=zt5 zfv Tryz.f235 F [] [1,1,1,0,1,0] f1 [(0,pS s),(3,.arr 3),(4,pI vi1),(5,pI vi2),(9,pI vi3),(10,pI vi4)] [(3,.barr 5 false vb5)]
noncomputable def zme(F:Nat)(vi6 vi7:Int)(vb8:List UInt8):=zi9 zfv Tryz.f235 F [] [1,1,1,1] [(3,.arr 3),(4,pI vi6),(5,pI vi7)] [(3,.barr 5 false vb8)]
noncomputable def zh6(F:Nat)(vb9:List UInt8):=zi9 zfv Tryz.f235 F [] [1,1,1,1,1] [(3,.arr 3)] [(3,.barr 5 false vb9)]
noncomputable def zfy(F f1:Nat)(s:List UInt8)(vi10 vi11 vi3 vi4:Int)(vb12:List UInt8):=zi9 zfv Tryz.f235 F [f1] [1,1,1,0,1,0,0,1,1,1] [(0,pS s),(3,.arr 3),(4,pI vi10),(5,pI vi11),(9,pI vi3),(10,pI vi4)] [(3,.barr 5 false vb12)]
noncomputable def zmd(F f1:Nat)(s:List UInt8)(vi13 vi2 vi3 vi4:Int)(vb5:List UInt8):=zi9 zfv Tryz.f235 F [f1] [1,1,1,0,1,0,0,1,1,0,0,1,1,1,1,1] [(0,pS s),(3,.arr 3),(4,pI vi13),(5,pI vi2),(9,pI vi3),(10,pI vi4)] [(3,.barr 5 false vb5)]
noncomputable def zrG(F f1:Nat)(s:List UInt8)(vi3 vi4:Int)(vb14:List UInt8):=zi9 zfv Tryz.f235 F [f1] [1,1,1,0,1,0,0,1,1,0,0,1,1,1,1,1,1,1,0,1] [(0,pS s),(3,.arr 3),(9,pI vi3),(10,pI vi4)] [(3,.barr 5 false vb14)]
noncomputable def ztH(F:Nat)(s:List UInt8):=zgB zfv Tryz.f235 F [pS s]
theorem zrK(F f1 s vi1 vi2 vi3 vi4 vb5):letI A:=((s.getD vi4.toNat 0).toNat:Int);letI B:=0<=vi4/\vi4<(s.length:Int);letI C:=zme F vi1 vi2 vb5;letI D:=ixS zO A;zh7 F (f1+1) s vi1 vi2 vi3 vi4 vb5=cond (decide (vi4<vi3)) (need B (cond (A==61) C (need B (cond (decide (D<0)) (zfy F f1 s vi1 vi2 vi3 vi4 vb5) (zmd F f1 s (zJ .or .i64 (IntKind.i64.wrap (vi1*64)) D) vi2 vi3 vi4 vb5))))) C:=Eq.trans (by kernel_rfl) (yN (zM (yN rfl (zM (yN rfl (zj (show 0<=(6:Int) from(by decide)) rfl))))) rfl)
theorem zrJ(F vi6 vi7 vb8):letI A:=(IntKind.u8.wrap (vi6.fdiv 1024)).toNat;letI B:=(IntKind.u8.wrap (vi6.fdiv 16)).toNat;letI C:=(IntKind.u8.wrap (vi6.fdiv 4)).toNat;zme F vi6 vi7 vb8=cond (vi7==2) (need ((vb8.length+[UInt8.ofNat B].length)*1<=140737488355328) (zh6 F (vb8++[UInt8.ofNat B]))) (cond (vi7==3) (need ((vb8.length+[UInt8.ofNat A,UInt8.ofNat C].length)*1<=140737488355328) (zh6 F (vb8++[UInt8.ofNat A,UInt8.ofNat C]))) (zh6 F vb8)):=Eq.trans (by kernel_rfl) (yN (zj (show 0<=(4:Int) from(by decide)) rfl) (yN (zj (show 0<=(10:Int) from(by decide)) (zj (show 0<=(2:Int) from(by decide)) rfl)) rfl))
theorem zfz(F vb9):zh6 F vb9=some (.p (.str vb9),[]):=by kernel_rfl
theorem zrI(F f1 s vi10 vi11 vi3 vi4 vb12):zfy F f1 s vi10 vi11 vi3 vi4 vb12=need (zQ (vi4+1)) (zh7 F f1 s vi10 vi11 vi3 (vi4+1) vb12):=by kernel_rfl
theorem zrH(F f1 s vi13 vi2 vi3 vi4 vb5):letI A:=(IntKind.u8.wrap (vi13.fdiv 65536)).toNat;letI B:=(IntKind.u8.wrap (vi13.fdiv 256)).toNat;letI C:=(IntKind.u8.wrap vi13).toNat;letI D:=vi2+1;zmd F f1 s vi13 vi2 vi3 vi4 vb5=need (zQ D) (cond (D==4) (need ((vb5.length+[UInt8.ofNat A,UInt8.ofNat B,UInt8.ofNat C].length)*1<=140737488355328) (zrG F f1 s vi3 vi4 (vb5++[UInt8.ofNat A,UInt8.ofNat B,UInt8.ofNat C]))) (zfy F f1 s vi13 D vi3 vi4 vb5)):=Eq.trans (by kernel_rfl) (zM (yN (zj (show 0<=(16:Int) from(by decide)) (zj (show 0<=(8:Int) from(by decide)) rfl)) rfl))
theorem zrF(F f1 s vi3 vi4 vb14):zrG F f1 s vi3 vi4 vb14=zfy F f1 s 0 0 vi3 vi4 vb14:=by kernel_rfl
theorem zwT(F s):ztH F s=zh7 F F s 0 0 (s.length:Int) 0 []:=by kernel_rfl
theorem zzl(F s r):IsP 235 (ztH F s) [.p (.str s)] r:=zi2 zfv rfl ⟨zyk.any,trivial⟩
def zdM(c:UInt8):Int:=ixS zO (c.toNat:Int)
theorem zkj(c:UInt8):-1<=zdM c/\zdM c<64:=by
 unfold zdM ixS
 have h1:=Lib.indexByte_ge zO ((c.toNat:Int)).toNat.toUInt8
 have h2:=zeo zO ((c.toNat:Int)).toNat.toUInt8
 rw[znQ]at h2
 omega
def zmQ(bits n:Nat):List UInt8:=if n=2 then[UInt8.ofNat (bits/16)] else if n=3 then[UInt8.ofNat (bits/1024),UInt8.ofNat (bits/4)] else[]
def zap:Nat->Nat->List UInt8->List UInt8
 | bits,n,[]=>zmQ bits n
 | bits,n,c::r=>if c=61 then zmQ bits n else if zdM c<0 then zap bits n r else
  if n+1=4 then[UInt8.ofNat ((bits*64+(zdM c).toNat)/65536),UInt8.ofNat ((bits*64+(zdM c).toNat)/256),UInt8.ofNat (bits*64+(zdM c).toNat)]++zap 0 0 r
  else zap (bits*64+(zdM c).toNat) (n+1) r
def zsA(s:List UInt8):List UInt8:=zap 0 0 s
theorem zqU(x m:Nat):(x:Int).fdiv (m:Int)=((x/m:Nat):Int):=by
 rw[Int.fdiv_eq_ediv_of_nonneg _ (Int.natCast_nonneg m),Int.natCast_ediv]
theorem zjL(F bits n:Nat)(b:List UInt8)(hl:b.length<=10000000):zme F (bits:Int) (n:Int) b=some (.p (.str (b++zmQ bits n)),[]):=by
 rw[zrJ,show(bits:Int).fdiv 16=_ from zqU bits 16,show(bits:Int).fdiv 1024=_ from zqU bits 1024,show(bits:Int).fdiv 4=_ from zqU bits 4,zkp,zkp,zkp,zfz,zfz,zfz]
 unfold zmQ
 by_cases h2:n=2
 .rw [if_pos h2];exact yL (by simp;omega) (zk (by simp;omega) rfl)
 .refine yM (by simp;omega) ?_
  rw[if_neg h2]
  by_cases h3:n=3
  .rw [if_pos h3];exact yL (by simp;omega) (zk (by simp;omega) rfl)
  .rw [if_neg h3,List.append_nil];exact yM (by simp;omega) rfl
theorem put6{c:UInt8}{bits:Nat}(hlt:bits<262144)(h:¬ zdM c<0):zJ .or .i64 (IntKind.i64.wrap ((bits:Int)*64)) (zdM c)=((bits*64+(zdM c).toNat:Nat):Int):=by
 have hv:=zkj c
 obtain⟨v,hv2⟩:=Int.eq_ofNat_of_zero_le (show 0<=zdM c by omega)
 rw[hv2,zbA (by omega) (by omega),show(bits:Int)*64=((bits*64:Nat):Int) by simp,zoK (by omega) (by omega)]
 have:=zou bits v 6 (by omega)
 rw[show bits*64=bits*2^6 by rfl,this];simp
theorem zwV(F:Nat)(s:List UInt8)(hs:s.length<=1000000):∀ (f i bits n:Nat) (b:List UInt8),s.length<f+i->i<=s.length->n<=3->bits<64^n->b.length<=3*i->
 zh7 F f s (bits:Int) (n:Int) (s.length:Int) (i:Int) b=some (.p (.str (b++zap bits n (s.drop i))),[]):=by
 intro f
 induction f with
 | zero=>intro i bits n b h1 h2;omega
 | succ f ih=>
  intro i bits n b h1 h2 hn hbits h3
  have hp:64^n<=64^3:=Nat.pow_le_pow_right (by decide) hn
  have hlt:bits<262144:=Nat.lt_of_lt_of_le hbits hp
  rw[zrK]
  cases hd:s.drop i with
  | nil=>
   have:s.length<=i:=by have:=congrArg List.length hd;simp at this;omega
   rw[zap]
   exact yM (by simp;omega) (zjL F bits n b (by omega))
  | cons c r=>
   obtain⟨e1,e2,e3⟩:=ziR hd
   have next:∀ (bits' n':Nat) (b':List UInt8),n'<=3->bits'<64^n'->b'.length<=3*(i+1)->zfy F f s (bits':Int) (n':Int) (s.length:Int) (i:Int) b'=some (.p (.str (b'++zap bits' n' r)),[]):=by
    intro bits' n' b' hn' hb' hl'
    rw[zrI,<-e2]
    exact zk (zyp (by omega) (by omega)) (ih (i+1) bits' n' b' (by omega) (by omega) hn' hb' hl')
   rw[Int.toNat_natCast,e1,zap]
   refine yL (by simp;omega) (zk (by omega) ?_)
   by_cases hc:c=61
   .subst hc
    rw[if_pos rfl]
    exact yL (by decide) (zjL F bits n b (by omega))
   .have hv:=zkj c
    rw[if_neg hc]
    refine yM (by simpa using fun e=>hc (zFA (d:=61) |>.1 e)) (zk (by omega) ?_)
    change cond (decide (zdM c<0)) _ (zmd F f s (zJ .or .i64 (IntKind.i64.wrap ((bits:Int)*64)) (zdM c)) _ _ _ _)=_
    by_cases hv0:zdM c<0
    .rw [if_pos hv0]
     exact yL (by simpa using hv0) (next bits n b hn hbits (by omega))
    .rw [if_neg hv0,put6 hlt hv0]
     refine yM (by simpa using hv0) ?_
     have hx:bits*64+(zdM c).toNat<16777216:=by omega
     rw[zrH,show(((bits*64+(zdM c).toNat:Nat):Int)).fdiv 65536=_ from zqU _ 65536,show(((bits*64+(zdM c).toNat:Nat):Int)).fdiv 256=_ from zqU _ 256,zkp,zkp,zkp]
     refine zk (zyp (by omega) (by omega)) ?_
     by_cases h4:n+1=4
     .rw [if_pos h4]
      refine yL (by simp;omega) (zk (by simp;omega) ?_)
      rw[zrF]
      refine(next 0 0 _ (by omega) (by decide) (by simp;omega)).trans ?_
      simp
     .rw [if_neg h4]
      refine yM (by simp;omega) (next (bits*64+(zdM c).toNat) (n+1) b (by omega) ?_ (by omega))
      rw[Nat.pow_succ];omega
theorem zAx(s:List UInt8)(hs:s.length<=1000000):ztH 1000001 s=some (.p (.str (zsA s)),[]):=by
 rw[zwT]
 exact zwV 1000001 s hs 1000001 0 0 0 [] (by omega) (by omega) (by omega) (by decide) (by simp)
theorem encB_len:∀ (n:Nat) (s:List UInt8),s.length<=n->(encB s).length=(s.length+2)/3*4
 | 0,s,h=>by have:s=[]:=List.length_eq_zero_iff.1 (by omega);subst this;rw[encB];rfl
 | n+1,s,h=>by
  match s,h with
  | x::y::z::r,h=>
   have:=encB_len n r (by simp at h;omega)
   rw[encB]
   simp only[List.length_append,zbN,this,List.length_cons]
   omega
  | [x,y],h=>rw[encB];simp[zbN]
  | [x],h=>rw[encB];simp[zbN]
  | [],h=>rw[encB];rfl
theorem zki:∀ k,k<64->zdM (letter k)=(k:Int)/\letter k≠61:=by decide+kernel
theorem zsH(x:Nat):lets x 2=[letter (x/2^18 % 64),letter (x/2^12 % 64)]:=rfl
theorem zsG(x:Nat):lets x 3=[letter (x/2^18 % 64),letter (x/2^12 % 64),letter (x/2^6 % 64)]:=rfl
theorem zsF(x:Nat):lets x 4=[letter (x/2^18 % 64),letter (x/2^12 % 64),letter (x/2^6 % 64),letter (x/2^0 % 64)]:=rfl
theorem yG(k bits n:Nat)(r:List UInt8)(hk:k<64)(hn:n<3):zap bits n (letter k::r)=zap (bits*64+k) (n+1) r:=by
 obtain⟨h1,h2⟩:=zki k hk
 rw[zap,if_neg h2,if_neg (by omega),if_neg (by omega),h1];simp
theorem zlf(k bits:Nat)(r:List UInt8)(hk:k<64):zap bits 3 (letter k::r)=[UInt8.ofNat ((bits*64+k)/65536),UInt8.ofNat ((bits*64+k)/256),UInt8.ofNat (bits*64+k)]++zap 0 0 r:=by
 obtain⟨h1,h2⟩:=zki k hk
 rw[zap,if_neg h2,if_neg (by omega),if_pos rfl,h1];simp
theorem zdR{n:Nat}{c:UInt8}(h:n % 256=c.toNat):UInt8.ofNat n=c:=by
 apply UInt8.toNat_inj.1
 rw[UInt8.toNat_ofNat'];simpa using h
theorem m64(x:Nat):x % 64<64:=Nat.mod_lt _ (by decide)
theorem znf:∀ (n:Nat) (s:List UInt8),s.length<=n->zap 0 0 (encB s)=s
 | 0,s,h=>by have:s=[]:=List.length_eq_zero_iff.1 (by omega);subst this;rw[encB,zap];rfl
 | n+1,s,h=>by
  match s,h with
  | x::y::z::r,h=>
   have ih:=znf n r (by simp at h;omega)
   have hx:=x.toNat_lt
   have hy:=y.toNat_lt
   have hz:=z.toNat_lt
   have h0:=zfN x y z
   have e:(((0*64+zc1 x y z/2^18 % 64)*64+zc1 x y z/2^12 % 64)*64+zc1 x y z/2^6 % 64)*64+zc1 x y z/2^0 % 64=zc1 x y z:=by omega
   rw[encB,zsF]
   simp only[List.cons_append,List.nil_append]
   rw[yG _ _ _ _ (m64 _) (by omega),yG _ _ _ _ (m64 _) (by omega),yG _ _ _ _ (m64 _) (by omega),zlf _ _ _ (m64 _),e,ih]
   rw[zdR (c:=x) (by unfold zc1;omega),zdR (c:=y) (by unfold zc1;omega),zdR (c:=z) (by unfold zc1;omega)]
   rfl
  | [x,y],h=>
   have hx:=x.toNat_lt
   have hy:=y.toNat_lt
   have z0:(0:UInt8).toNat=0:=by decide
   have h0:=zfN x y 0
   rw[encB,zsG]
   simp only[List.cons_append,List.nil_append]
   rw[yG _ _ _ _ (m64 _) (by omega),yG _ _ _ _ (m64 _) (by omega),yG _ _ _ _ (m64 _) (by omega),zap,if_pos rfl]
   unfold zmQ
   rw[if_neg (by omega),if_pos (by omega),zdR (c:=x) (by unfold zc1;omega),zdR (c:=y) (by unfold zc1;omega)]
  | [x],h=>
   have hx:=x.toNat_lt
   have z0:(0:UInt8).toNat=0:=by decide
   have h0:=zfN x 0 0
   rw[encB,zsH]
   simp only[List.cons_append,List.nil_append]
   rw[yG _ _ _ _ (m64 _) (by omega),yG _ _ _ _ (m64 _) (by omega),zap,if_pos rfl]
   unfold zmQ
   rw[if_pos (by omega),zdR (c:=x) (by unfold zc1;omega)]
  | [],h=>rw[encB,zap];rfl
theorem u8c(c:UInt8):((c.toNat:Int)).toNat.toUInt8=c:=by simp
noncomputable def Gixl:=mkG [(210,zjV)] [] 143 [] [] []
noncomputable def zFv(F:Nat)(s:List UInt8)(c:UInt8):=zgB Gixl Tryz.f518 F [pS s,.p (.str [c])]
theorem zC4(F s c):letI A:=(0:Int);zFv F s c=cond (false||([c]==s)) (some (.p (.int .i64 0),[])) (need (0<=A/\A<([c].length:Int)) (some (.p (.int .i64 (ixS s (([c].getD A.toNat 0).toNat:Int))),[]))):=letI A:=(!false)=true;Eq.trans (by kernel_rfl) (nI A (nI A (nN false rfl)))
theorem zEO(F s c r):IsP 518 (zFv F s c) [.p (.str s),.p (.str [c])] r:=zi2 Gixl rfl ⟨zuf.any,trivial⟩
theorem zEA(s:List UInt8)(c:UInt8):zFv 0 s c=some (.p (.int .i64 (ixS s (c.toNat:Int))),[]):=by
 rw[zC4]
 by_cases h:[c]=s
 .refine yL (by simp[h]) ?_
  subst h
  have:ixS [c] (c.toNat:Int)=0:=by unfold ixS;rw[u8c];simp[Lib.indexByte]
  rw[this]
 .refine yM (by simp[h]) ?_
  exact zk (by simp) rfl
def zr0:List AV->Option (AV×Option Prop)
 | [.p (.str s),.p (.str [c])]=>some (.p (.int .i64 (ixS s (c.toNat:Int))),none)
 | _=>none
theorem zEd:zaG Tryz.prog 518 zr0:=by
 intro zs r ok he hok
 unfold zr0 at he
 split at he
 .cases he;exact⟨by kernel_rfl,zEO 0 _ _ _ fun hx=>zEA _ _⟩
 .cases he
def zaA(s:List UInt8)(c:UInt8):List UInt8×List UInt8×Bool:=
 if ixS s (c.toNat:Int)>=0 then(s.take (ixS s (c.toNat:Int)).toNat,s.drop ((ixS s (c.toNat:Int))+1).toNat,true) else(s,[],false)
noncomputable def zDK:=mkG [(518,zr0)] [] 23 [] [] []
noncomputable def zAN(F:Nat)(s:List UInt8)(c:UInt8):=zgB zDK Tryz.f393 F [pS s,.p (.str [c])]
theorem zAM(F s c):letI A:=ixS s (c.toNat:Int);letI B:=A+1;letI C:=(s.length:Int);zAN F s c=cond (decide (A>=0)) (need (0<=A/\A<=C) (need (zQ B) (need (0<=B/\B<=C) (some (.tup [.p (.str (s.take A.toNat)),.p (.str (s.drop B.toNat)),.p (.bool true)],[]))))) (some (.tup [.p (.str s),.p (.str ([]:List UInt8)),.p (.bool false)],[])):=by kernel_rfl
theorem zCf(F s c r):IsP 393 (zAN F s c) [.p (.str s),.p (.str [c])] r:=zi2 zDK rfl ⟨zEd.any,trivial⟩
theorem zyQ(s:List UInt8)(c:Int):ixS s c<s.length\/ixS s c=-1:=zeo s c.toNat.toUInt8
theorem zCy(s:List UInt8)(c:UInt8)(hs:s.length<=1000000):zAN 0 s c=some (.tup [.p (.str (zaA s c).1),.p (.str (zaA s c).2.1),.p (.bool (zaA s c).2.2)],[]):=by
 rw[zAM,zaA]
 have h:=zyQ s (c.toNat:Int)
 by_cases hc:ixS s (c.toNat:Int)>=0
 .refine yL (by simpa using hc) ?_
  rw[if_pos hc]
  refine zk (by omega) (zk (by unfold zQ;omega) (zk (by omega) rfl))
 .refine yM (by simpa using hc) ?_
  rw[if_neg hc]
def zoh:List AV->Option (AV×Option Prop)
 | [.p (.str s),.p (.str [c])]=>some (.tup [.p (.str ((zaA s c).1)),.p (.str ((zaA s c).2.1)),.p (.bool ((zaA s c).2.2))],some (s.length<=1000000))
 | _=>none
theorem zBG:zaG Tryz.prog 393 zoh:=by
 intro zs r ok he hok
 unfold zoh at he
 split at he
 .cases he;exact⟨by kernel_rfl,zCf 0 _ _ _ fun hx=>zCy _ _ hok⟩
 .cases he
noncomputable def Gcut:=mkG [(393,zoh)] [] 13 [] [] []
noncomputable def zFy(F:Nat)(s:List UInt8)(c:UInt8):=zgB Gcut Tryz.f233 F [pS s,.p (.str [c])]
theorem zC6(F s c):letI A:=zaA s c;zFy F s c=need (s.length<=1000000) (some (.tup [.p (.str A.1),.p (.str A.2.1),.p (.bool A.2.2)],[])):=by kernel_rfl
theorem zER(F s c r):IsP 233 (zFy F s c) [.p (.str s),.p (.str [c])] r:=zi2 Gcut rfl ⟨zBG.any,trivial⟩
theorem zE4(s:List UInt8)(c:UInt8)(hs:s.length<=1000000):zFy 0 s c=some (.tup [.p (.str (zaA s c).1),.p (.str (zaA s c).2.1),.p (.bool (zaA s c).2.2)],[]):=by
 rw[zC6];exact zk9 hs
def zr2:List AV->Option (AV×Option Prop)
 | [.p (.str s),.p (.str [c])]=>some (.tup [.p (.str ((zaA s c).1)),.p (.str ((zaA s c).2.1)),.p (.bool ((zaA s c).2.2))],some (s.length<=1000000))
 | _=>none
theorem zEf:zaG Tryz.prog 233 zr2:=by
 intro zs r ok he hok
 unfold zr2 at he
 split at he
 .cases he;exact⟨by kernel_rfl,zER 0 _ _ _ fun hx=>zE4 _ _ hok⟩
 .cases he
theorem ziB(c:UInt8):∀ (s:List UInt8),(∃ p q,s=p++c::q/\(∀ x ∈ p,x≠c)/\Lib.indexByte s c=(p.length:Int))\/((∀ x ∈ s,x≠c)/\Lib.indexByte s c=-1)
 | []=>.inr ⟨by simp,rfl⟩
 | b::l=>by
  by_cases h:b=c
  .subst h
   exact .inl ⟨[],l,rfl,by simp,by simp[Lib.indexByte]⟩
  .rcases ziB c l with⟨p,q,e,hp,hi⟩|⟨hn,hi⟩
   .refine .inl ⟨b::p,q,by rw[e];rfl,?_,?_⟩
    .intro x hx
     rcases List.mem_cons.1 hx with rfl|hx
     .exact h
     .exact hp x hx
    .unfold Lib.indexByte
     rw[if_neg (by simpa using h),hi,if_neg (by simp)]
     simp only[List.length_cons];omega
   .refine .inr ⟨?_,?_⟩
    .intro x hx
     rcases List.mem_cons.1 hx with rfl|hx
     .exact h
     .exact hn x hx
    .simp [Lib.indexByte,hi,h]
theorem zsI(s:List UInt8)(c:UInt8):ixS s (c.toNat:Int)=Lib.indexByte s c:=by unfold ixS;rw[u8c]
theorem znF(c:UInt8)(s:List UInt8):(∃ p q,s=p++c::q/\(∀ x ∈ p,x≠c)/\zaA s c=(p,q,true))\/((∀ x ∈ s,x≠c)/\zaA s c=(s,[],false)):=by
 rcases ziB c s with⟨p,q,e,hp,hi⟩|⟨hn,hi⟩
 .refine .inl ⟨p,q,e,hp,?_⟩
  rw[zaA,zsI,hi,if_pos (by omega)]
  have e1:((p.length:Int)+1).toNat=p.length+1:=by omega
  rw[Int.toNat_natCast,e1,e]
  simp
 .refine .inr ⟨hn,?_⟩
  rw[zaA,zsI,hi,if_neg (by decide)]
theorem zrb(s:List UInt8)(c:UInt8):(zaA s c).1.length+(zaA s c).2.1.length<=s.length:=by
 rcases znF c s with⟨p,q,e,_,hc⟩|⟨_,hc⟩
 .rw [hc,e];simp
 .rw [hc];simp
def ziF(s p:List UInt8):Bool:=decide ((s.length:Int)>=(p.length:Int))&&(s.drop (s.length-p.length)==p)
def zbj(s p:List UInt8):List UInt8:=if ziF s p=true then s.take (s.length-p.length) else s
noncomputable def Ghsl:=mkG [] [] 21 [] [] []
noncomputable def zFx(F:Nat)(s p:List UInt8):=zgB Ghsl Tryz.f562 F [pS s,pS p]
theorem zC5(F s p):letI A:=(s.length:Int)-(p.length:Int);letI B:=decide ((s.length:Int)>=(p.length:Int));zFx F s p=need (B=true->zQ A) (need (B=true->0<=A/\A<=(s.length:Int)) (some (.p (.bool (B&&((s.drop A.toNat)==p))),[]))):=letI A:=(decide ((s.length:Int)>=(p.length:Int)))=true;Eq.trans (by kernel_rfl) (nI A (nI A (nI A (nI A (zM (nI A (nI A (zM (nI A (nI A (nI A rfl)))))))))))
theorem zEQ(F s p r):IsP 562 (zFx F s p) [.p (.str s),.p (.str p)] r:=zi2 Ghsl rfl trivial
theorem zEJ(s p:List UInt8)(hs:s.length<=1000000):zFx 0 s p=some (.p (.bool (ziF s p)),[]):=by
 have e:((s.length:Int)-(p.length:Int)).toNat=s.length-p.length:=by omega
 rw[zC5,e]
 exact zk (fun h=>by unfold zQ;simp at h;omega) (zk (fun h=>by simp at h;omega) rfl)
def zr1:List AV->Option (AV×Option Prop)
 | [.p (.str s),.p (.str p)]=>some (.p (.bool (ziF s p)),some (s.length<=1000000))
 | _=>none
theorem zEe:zaG Tryz.prog 562 zr1:=by
 intro zs r ok he hok
 unfold zr1 at he
 split at he
 .cases he;exact⟨by kernel_rfl,zEQ 0 _ _ _ fun hx=>zEJ _ _ hok⟩
 .cases he
noncomputable def Gtsl:=mkG [(562,zr1)] [] 16 [] [] []
noncomputable def zFt(F:Nat)(s p:List UInt8):=zgB Gtsl Tryz.f471 F [pS s,pS p]
theorem zC0(F s p):letI A:=(s.length:Int)-(p.length:Int);zFt F s p=need (s.length<=1000000) (cond (ziF s p) (need (zQ A) (need (0<=A/\A<=(s.length:Int)) (some (.p (.str (s.take A.toNat)),[])))) (some (.p (.str s),[]))):=by kernel_rfl
theorem zEM(F s p r):IsP 471 (zFt F s p) [.p (.str s),.p (.str p)] r:=zi2 Gtsl rfl ⟨zEe.any,trivial⟩
theorem zDQ(s p:List UInt8)(hs:s.length<=1000000):zFt 0 s p=some (.p (.str (zbj s p)),[]):=by
 have e:((s.length:Int)-(p.length:Int)).toNat=s.length-p.length:=by omega
 rw[zC0,zbj,e]
 refine zk hs ?_
 by_cases h:ziF s p=true
 .have h2:=h
  unfold ziF at h2
  rw[Bool.and_eq_true]at h2
  have h3:=of_decide_eq_true h2.1
  refine yL h (zk (by unfold zQ;omega) (zk (by omega) ?_))
  rw[if_pos h]
 .refine yM (by simpa using h) ?_
  rw[if_neg h]
def zrZ:List AV->Option (AV×Option Prop)
 | [.p (.str s),.p (.str p)]=>some (.p (.str (zbj s p)),some (s.length<=1000000))
 | _=>none
theorem zEc:zaG Tryz.prog 471 zrZ:=by
 intro zs r ok he hok
 unfold zrZ at he
 split at he
 .cases he;exact⟨by kernel_rfl,zEM 0 _ _ _ fun hx=>zDQ _ _ hok⟩
 .cases he
noncomputable def Gts:=mkG [(471,zrZ)] [] 8 [] [] []
noncomputable def Fts(F:Nat)(s p:List UInt8):=zgB Gts Tryz.f308 F [pS s,pS p]
theorem zFu(F s p):Fts F s p=need (s.length<=1000000) (some (.p (.str (zbj s p)),[])):=by kernel_rfl
theorem zHo(F s p r):IsP 308 (Fts F s p) [.p (.str s),.p (.str p)] r:=zi2 Gts rfl ⟨zEc.any,trivial⟩
theorem zFB(s p:List UInt8)(hs:s.length<=1000000):Fts 0 s p=some (.p (.str (zbj s p)),[]):=by rw[zFu];exact zk hs rfl
def zt2:List AV->Option (AV×Option Prop)
 | [.p (.str s),.p (.str p)]=>some (.p (.str (zbj s p)),some (s.length<=1000000))
 | _=>none
theorem zHc:zaG Tryz.prog 308 zt2:=by
 intro zs r ok he hok
 unfold zt2 at he
 split at he
 .cases he;exact⟨by kernel_rfl,zHo 0 _ _ _ fun hx=>zFB _ _ hok⟩
 .cases he
end Go.Proofs.YtfidlcpfbinncaaGreatDoor
namespace Go.Proofs.YtfidlcpfbinncaaGreatDoor
open Go Go.Am
def zqC(c:UInt8):Bool:=[32,9].contains c
def zeQ(s:List UInt8):List UInt8:=(s.reverse.dropWhile zqC).reverse.dropWhile zqC
theorem zDR(s:List UInt8):Lib.trimS s [32,9]=zeQ s:=rfl
theorem zeu(p:UInt8->Bool):∀ l:List UInt8,(l.dropWhile p).length<=l.length
 | []=>by simp
 | c::r=>by rw[List.dropWhile_cons];split <;> simp;exact Nat.le_succ_of_le (zeu p r)
theorem zkr(s:List UInt8):(zeQ s).length<=s.length:=by
 unfold zeQ
 have h1:=zeu zqC (s.reverse.dropWhile zqC).reverse
 have h2:=zeu zqC s.reverse
 simp at h1 h2;omega
end Go.Proofs.YtfidlcpfbinncaaGreatDoor
namespace Go.Proofs.YtfidlcpfbinncaaGreatDoor
open Go.Shelf
def lays160_ren : Go.Shelf.Ren:=⟨fun |160=>634|232=>617|231=>705|227=>618|234=>619|233=>706|236=>620|235=>707|228=>698|271=>699|151=>700|197=>403|120=>747|152=>748|260=>526|137=>104|119=>763|224=>613|225=>612|217=>210|266=>382|n=>n, fun |9=>9|4=>4|3=>3|5=>5|117=>670|116=>669|0=>0|124=>673|21=>21|105=>473|46=>79|119=>674|139=>677|138=>676|n=>n, fun |3=>2|4=>3|n=>n⟩
theorem lays160 : Go.Proofs.Lays.n160 Tryz.prog lays160_ren:={
 mixed:=by kernel_rfl
 f119:=Tryz.func763.trans (congrArg some (by kernel_rfl))
 f120:=Tryz.func747.trans (congrArg some (by kernel_rfl))
 f137:=Tryz.func104.trans (congrArg some (by kernel_rfl))
 f151:=Tryz.func700.trans (congrArg some (by kernel_rfl))
 f152:=Tryz.func748.trans (congrArg some (by kernel_rfl))
 f160:=Tryz.func634.trans (congrArg some (by kernel_rfl))
 f197:=Tryz.func403.trans (congrArg some (by kernel_rfl))
 f217:=Tryz.func210.trans (congrArg some (by kernel_rfl))
 f224:=Tryz.func613.trans (congrArg some (by kernel_rfl))
 f225:=Tryz.func612.trans (congrArg some (by kernel_rfl))
 f227:=Tryz.func618.trans (congrArg some (by kernel_rfl))
 f228:=Tryz.func698.trans (congrArg some (by kernel_rfl))
 f231:=Tryz.func705.trans (congrArg some (by kernel_rfl))
 f232:=Tryz.func617.trans (congrArg some (by kernel_rfl))
 f233:=Tryz.func706.trans (congrArg some (by kernel_rfl))
 f234:=Tryz.func619.trans (congrArg some (by kernel_rfl))
 f235:=Tryz.func707.trans (congrArg some (by kernel_rfl))
 f236:=Tryz.func620.trans (congrArg some (by kernel_rfl))
 f260:=Tryz.func526.trans (congrArg some (by kernel_rfl))
 f266:=Tryz.func382.trans (congrArg some (by kernel_rfl))
 f271:=Tryz.func699.trans (congrArg some (by kernel_rfl))
 t0:=Tryz.underlying0
 a0:=Tryz.isAgg0
 z0:=Tryz.sizeOf0
 v0:=Tryz.zeroValue0
 t3:=Tryz.underlying3
 a3:=Tryz.isAgg3
 z3:=Tryz.sizeOf3
 v3:=Tryz.zeroValue3
 t4:=Tryz.underlying4
 a4:=Tryz.isAgg4
 z4:=Tryz.sizeOf4
 v4:=Tryz.zeroValue4
 t5:=Tryz.underlying5
 a5:=Tryz.isAgg5
 z5:=Tryz.sizeOf5
 v5:=Tryz.zeroValue5
 t9:=Tryz.underlying9
 a9:=Tryz.isAgg9
 z9:=Tryz.sizeOf9
 v9:=Tryz.zeroValue9
 t21:=Tryz.underlying21
 a21:=Tryz.isAgg21
 z21:=Tryz.sizeOf21
 v21:=Tryz.zeroValue21
 t46:=Tryz.underlying79
 a46:=Tryz.isAgg79
 z46:=Tryz.sizeOf79
 v46:=Tryz.zeroValue79
 t105:=Tryz.underlying473
 a105:=Tryz.isAgg473
 z105:=Tryz.sizeOf473
 v105:=Tryz.zeroValue473
 t116:=Tryz.underlying669
 a116:=Tryz.isAgg669
 z116:=Tryz.sizeOf669
 t117:=Tryz.underlying670
 a117:=Tryz.isAgg670
 z117:=Tryz.sizeOf670
 v117:=Tryz.zeroValue670
 t119:=Tryz.underlying674
 a119:=Tryz.isAgg674
 z119:=Tryz.sizeOf674
 t124:=Tryz.underlying673
 a124:=Tryz.isAgg673
 z124:=Tryz.sizeOf673
 v124:=Tryz.zeroValue673
 t138:=Tryz.underlying676
 a138:=Tryz.isAgg676
 z138:=Tryz.sizeOf676
 v138:=Tryz.zeroValue676
 t139:=Tryz.underlying677
 a139:=Tryz.isAgg677
 z139:=Tryz.sizeOf677
 v139:=Tryz.zeroValue677
 g3:=by kernel_rfl
 g4:=by kernel_rfl }
end Go.Proofs.YtfidlcpfbinncaaGreatDoor
namespace Go.Proofs.YtfidlcpfbinncaaGreatDoor
open Go Go.Am Go.Shelf
def zkD:List AV->Option (AV×Option Prop)
 | [.p (.str s),.p (.str [32,9])]=>some (.p (.str (zeQ s)),some (s.length<=1000000))
 | _=>none
theorem zyi:zaG Tryz.prog 634 zkD:=by
 intro zs r ok he hok
 unfold zkD at he
 split at he
 .rename_i s
  cases he
  refine⟨by kernel_rfl,fun M w vs hM hvs=>?_⟩
  cases hvs with|cons h1 h2=>
  cases h2 with|cons h2 h3=>
  cases h3
  cases h1 with|p _ _ h1=>
  cases h2 with|p _ _ h2=>
  cases h1 with|str _ hs=>
  cases h2 with|str _ hc=>
  have hok:s.length<=1000000:=hok
  have hcon:=Any.strings_Trim_laid lays160 (by kernel_rfl) ⟨s.toArray⟩ ⟨#[32,9]⟩ w (by show s.toArray.size<=_;simp;omega) (by decide) (ascii_of_all (by decide))
  refine Calls.mono hcon fun e w' ⟨he,hB⟩=>?_
  refine⟨_,M,he,MLe.refl M,fun _ _=>rfl,⟨fun b q v hv=>?_,hM.good⟩,.p _ _ (.str (zeQ s) ?_),hB⟩
  .have hc:=hM b q v hv
   have hb:b<w.heap.size:=World.block_lt_of_cell? w ⟨b,q,none⟩ hc
   rw[World.cell?_of_block (w:=w) (hB.block b hb)];exact hc
  .have:=zkr s
   unfold maxLen;omega
 .cases he
end Go.Proofs.YtfidlcpfbinncaaGreatDoor
namespace Go.Proofs.YtfidlcpfbinncaaGreatDoor
open Go Go.Am
def idx(sub:List UInt8):List UInt8->Nat->Int
 | [],i=>if sub.isPrefixOf [] then i else -1
 | c::r,i=>if sub.isPrefixOf (c::r) then i else idx sub r (i+1)
def zlo(c:UInt8):Bool:=decide (33<=c.toNat)&&decide (c.toNat<=126)
def zeg(s:List UInt8):(List UInt8×List UInt8)×Bool:=(((zaA s 58).1,zeQ (zaA s 58).2.1),((zaA s 58).2.2&&(zaA s 58).1.all zlo)&&((zaA s 58).1 != []))
noncomputable def zva:=mkG [(233,zr2),(634,zkD)] [] 42 [] [([0,1,0,1,1],⟨[2,4,5,6,15,16],[⟨.slot 2,2,.cells []⟩]⟩),([1,1,1,0,0,1,0,1,1],⟨[2,4,5,6,15,16],[⟨.slot 2,2,.cells []⟩]⟩)] []
noncomputable def zke(F f1:Nat)(vs1 vs2:List UInt8)(vc3:Bool)(vi4 vi5:Int):=zt5 zva Tryz.f531 F [] [1,1,0,1,0] f1 [(2,.ref 2 0),(4,pS vs1),(5,pS vs2),(6,pB vc3),(15,pI vi4),(16,pI vi5)] [(2,.cells [pS ([]:List UInt8),pS ([]:List UInt8)])]
noncomputable def zve(F f1:Nat)(vs1 vs2:List UInt8)(vc6:Bool)(vi4 vi5:Int):=zi9 zva Tryz.f531 F [f1] [1,1,0,1,0,0,1,1,1] [(2,.ref 2 0),(4,pS vs1),(5,pS vs2),(6,pB vc6),(15,pI vi4),(16,pI vi5)] [(2,.cells [pS ([]:List UInt8),pS ([]:List UInt8)])]
noncomputable def zAL(F:Nat)(s:List UInt8):=zgB zva Tryz.f531 F [pS s]
theorem zmc(F f1 vs1 vs2 vc3 vi4 vi5):letI A:=((vs1.getD vi5.toNat 0).toNat:Int);letI B:=vc3&&(decide (A>=33));letI C:=(vs1.length:Int);zke F (f1+1) vs1 vs2 vc3 vi4 vi5=cond (decide (vi5<vi4)) (need (vc3=true->0<=vi5/\vi5<C) (need (B=true->0<=vi5/\vi5<C) (zve F f1 vs1 vs2 (B&&(decide (A<=126))) vi4 vi5))) (need (vs2.length<=1000000) (some (.tup [.agg [.p (.str vs1),.p (.str (zeQ vs2))],.p (.bool (vc3&&(vs1 != ([]:List UInt8))))],[]))):=letI A:=(vc3&&(decide (((vs1.getD vi5.toNat 0).toNat:Int)>=33)))=true;letI B:=vc3=true;Eq.trans (by kernel_rfl) (yN (nI B (nI B (zM (nI B (nI B (nI A (nI A (zM (nI A (nI A rfl)))))))))) (zM (nI B (nI B rfl))))
theorem ztM(F f1 vs1 vs2 vc6 vi4 vi5):zve F f1 vs1 vs2 vc6 vi4 vi5=need (zQ (vi5+1)) (zke F f1 vs1 vs2 vc6 vi4 (vi5+1)):=by kernel_rfl
theorem zAK(F s):letI A:=zaA s 58;zAL F s=need (s.length<=1000000) (zke F F A.1 A.2.1 A.2.2 (A.1.length:Int) 0):=by kernel_rfl
theorem zCe(F s r):IsP 531 (zAL F s) [.p (.str s)] r:=zi2 zva rfl ⟨zEf.any,zyi.any,trivial⟩
theorem zsJ(c:UInt8)(m:Bool):((m&&(decide ((c.toNat:Int)>=(33:Int))))&&(decide ((c.toNat:Int)<=(126:Int))))=(m&&zlo c):=by
 unfold zlo
 rw[Bool.and_assoc,show decide ((c.toNat:Int)>=(33:Int))=decide (33<=c.toNat) from decide_eq_decide.2 (by omega),show decide ((c.toNat:Int)<=(126:Int))=decide (c.toNat<=126) from decide_eq_decide.2 (by omega)]
theorem ztL(F:Nat)(a b:List UInt8)(ha:a.length<=1000000)(hb:b.length<=1000000):∀ (r:List UInt8) (f i:Nat) (m:Bool),a.drop i=r->r.length<f->i<=a.length->
 zke F f a b m (a.length:Int) (i:Int)=some (.tup [.agg [.p (.str a),.p (.str (zeQ b))],.p (.bool ((m&&r.all zlo)&&(a != [])))],[]):=by
 intro r
 induction r with
 | nil=>
  intro f i m hd hf hi
  have:i=a.length:=by have:=congrArg List.length hd;simp at this;omega
  cases f with
  | zero=>omega
  | succ f=>
   rw[zmc]
   refine yM (by simp;omega) (zk hb ?_)
   simp
 | cons c r ih=>
  intro f i m hd hf hi
  obtain⟨h1,h2,h3⟩:=ziR hd
  cases f with
  | zero=>omega
  | succ f=>
   rw[zmc]
   refine yL (by simp;omega) (zk (fun _=>⟨by omega,by omega⟩) (zk (fun _=>⟨by omega,by omega⟩) ?_))
   rw[Int.toNat_natCast,h1,zsJ,ztM]
   refine zk (by unfold zQ;omega) ?_
   rw[show(i:Int)+1=((i+1:Nat):Int) by omega,ih f (i+1) _ h2 (by simp at hf;omega) (by omega),List.all_cons,Bool.and_assoc m]
theorem zCa(s:List UInt8)(hs:s.length<=1000000):zAL (s.length+1) s=some (.tup [.agg [.p (.str (zeg s).1.1),.p (.str (zeg s).1.2)],.p (.bool (zeg s).2)],[]):=by
 have hl:=zrb s 58
 rw[zAK]
 refine zk hs ?_
 have:=ztL (s.length+1) (zaA s 58).1 (zaA s 58).2.1 (by omega) (by omega) (zaA s 58).1 (s.length+1) 0 (zaA s 58).2.2 rfl (by omega) (by omega)
 exact this
def zjW:List AV->Option (AV×Option Prop)
 | [.p (.str s)]=>some (.tup [.agg [.p (.str ((zeg s).1.1)),.p (.str ((zeg s).1.2))],.p (.bool ((zeg s).2))],some (s.length<=1000000))
 | _=>none
theorem zBF:zaG Tryz.prog 531 zjW:=by
 intro zs r ok he hok
 unfold zjW at he
 split at he
 .cases he;exact⟨by kernel_rfl,zCe (_) _ _ fun hx=>zCa _ hok⟩
 .cases he
def lnF:List UInt8->Nat->List UInt8->List (Nat×List UInt8×Nat)
 | acc,a,[]=>if acc=[] then[] else[(a,acc,a+acc.length)]
 | acc,a,c::r=>if c=10 then(a,zbj acc [13],a+acc.length+1)::lnF [] (a+acc.length+1) r else lnF (acc++[c]) a r
theorem zyE{q:List UInt8}:∀ {p:List UInt8} (acc:List UInt8) (a:Nat),(∀ x ∈ p,x≠10)->lnF acc a (p++10::q)=(a,zbj (acc++p) [13],a+(acc++p).length+1)::lnF [] (a+(acc++p).length+1) q
 | [],acc,a,_=>by rw[List.nil_append,lnF,if_pos rfl,List.append_nil]
 | c::p,acc,a,h=>by rw[List.cons_append,lnF,if_neg (h c (by simp)),zyE (acc++[c]) a (fun x hx=>h x (List.mem_cons_of_mem _ hx)),List.append_assoc];rfl
theorem zup:∀ {p:List UInt8} (acc:List UInt8) (a:Nat),(∀ x ∈ p,x≠10)->lnF acc a p=if acc++p=[] then[] else[(a,acc++p,a+(acc++p).length)]
 | [],acc,a,_=>by rw[lnF,List.append_nil]
 | c::p,acc,a,h=>by rw[lnF,if_neg (h c (by simp)),zup (acc++[c]) a (fun x hx=>h x (List.mem_cons_of_mem _ hx)),List.append_assoc];rfl
theorem zpD(s p:List UInt8):(zbj s p).length<=s.length:=by unfold zbj;split <;> simp
def zas(s:List UInt8)(a b:Nat):List (Nat×List UInt8×Nat):=lnF [] a ((s.take b).drop a)
def zcm:List UInt8->Bool
 | c::_=>c==32||c==9
 | []=>false
def zaI:List (Nat×List UInt8×Nat)->Int->List (List UInt8)->List (List UInt8)×Int
 | [],body,g=>(g,body)
 | (_,t,nx)::r,body,g=>if t=[] then(g,(nx:Int)) else if g≠[]/\zcm t=true then zaI r body (g.set (g.length-1) (g.getD (g.length-1) []++t)) else zaI r body (g++[t])
def zaJ(g:List (List UInt8)):List (List UInt8×List UInt8):=g.filterMap fun t=>if(zeg t).2=true then some (zeg t).1 else none
def zac(s:List UInt8)(a b:Int):List (List UInt8×List UInt8)×Int:=if a<0\/b>s.length\/a>b then([],a) else(zaJ (zaI (zas s a.toNat b.toNat) b []).1,(zaI (zas s a.toNat b.toNat) b []).2)
theorem zsq{t:List UInt8}(h:zcm t=true):(zeg t).2=false:=by
 cases t with
 | nil=>cases h
 | cons c r=>
  have hc:c=32\/c=9:=by simpa[zcm]using h
  unfold zeg
  rcases znF 58 (c::r)with⟨p,q,e,_,he⟩|⟨_,he⟩
  .rw [he]
   dsimp only
   cases p with
   | nil=>simp at e;rcases hc with h|h <;> rw[h]at e <;> exact absurd e.1 (by decide)
   | cons x p=>
    have:c=x:=(List.cons.inj e).1
    subst this
    rcases hc with h|h <;> subst h <;> simp[zlo]
  .rw [he];rfl
noncomputable def zAA:=mkG [] [] 8 [] [] []
noncomputable def zAI(F:Nat)(s:List UInt8)(a b:Int):=zxP zAA Tryz.f530 ⟨[6],[⟨.comp 6 0,506000,.cells []⟩,⟨.comp 6 1,506001,.cells []⟩,⟨.comp 6 2,506002,.cells []⟩]⟩ [506000,506001,506002] F [pS s,pI a,pI b] []
theorem zwR(F s a b):zAI F s a b=some (.clo (.func 633) [] [.ref 506000 0,.ref 506001 0,.ref 506002 0],[(506000,.cells [.p (.int .i64 a)]),(506001,.cells [.p (.int .i64 b)]),(506002,.cells [.p (.str s)])]):=by kernel_rfl
theorem zzj(F s a b r os):IsR 530 (zAI F s a b) [.p (.str s),.p (.int .i64 a),.p (.int .i64 b)] [] [] r os:=FnRz zAA ⟨[6],[⟨.comp 6 0,506000,.cells []⟩,⟨.comp 6 1,506001,.cells []⟩,⟨.comp 6 2,506002,.cells []⟩]⟩ [506000,506001,506002] rfl trivial
def zg8:zma:=⟨[true,true,true],fun args ib=>match args,ib with
 | [.p (.str s),.p (.int .i64 a),.p (.int .i64 b)],[]=>some (([],.clo (.func 633) [] [.ref 506000 0,.ref 506001 0,.ref 506002 0]),([(506000,.cells [.p (.int .i64 a)]),(506001,.cells [.p (.int .i64 b)]),(506002,.cells [.p (.str s)])],none))
 | _,_=>none⟩
theorem zyj:zhY Tryz.prog 530 zg8:=by
 intro args ib kept r outs ok he hok
 simp only[zg8]at he
 split at he
 .cases he
  exact⟨by kernel_rfl,zzj 0 _ _ _ _ _ fun _=>zwR 0 _ _ _⟩
 .cases he
abbrev za7:List Nat:=[7,8,1001,1002,1003,1004,1005]
def oI(body:Int)(g:List (List UInt8))(i b:Int)(s:List UInt8)(rec:Loop):List (Nat×AObj):=[(1005,.raw (.loop rec)),(1004,.raw (.deferred (some []))),(7,.cells [.p (.int .i64 body)]),(8,.cells [.arr 81]),(81,.larr 9 true 1 (.dat .str g)),(1001,.cells [.p (.int .i64 i)]),(1002,.cells [.p (.int .i64 b)]),(1003,.cells [.p (.str s)])]
noncomputable def cS:Code:=zaV Tryz.f421
noncomputable def cI:Code:=zaV Tryz.f633
def zHt:Cut:=⟨[6,7,8,34],[⟨.slot 7,7,.cells []⟩,⟨.slot 8,8,.cells []⟩,⟨.cell 8 0,81,(.larr 9 true 1 (.dat .str ([]:List (List UInt8))))⟩,⟨.comp 34 0,1001,.cells []⟩,⟨.comp 34 1,1002,.cells []⟩,⟨.comp 34 2,1003,.cells []⟩]⟩
noncomputable def zEx:K:=fun e s=>match e with|.normal=>zgi [] zHt .normal s|.ret=>kP Tryz.prog Tryz.f421.results.toList .ret s|_=>none
noncomputable def GS0:Cfg:=⟨Tryz.prog,ze0 [],zgI [(530,zg8)],98,[],[],[([],[3])]⟩
theorem zCZ:yQ Tryz.prog GS0.env:=zbi (l:=[]) trivial
theorem zAB:zal Tryz.prog GS0.envR:=zb7 (l:=[(530,zg8)]) ⟨zyj,trivial⟩
theorem zx4(s:List UInt8)(a b:Int):yV GS0 zaY [] (at_ cS [0]) (mkS [(0,.p (.str s)),(1,.p (.int .i64 a)),(2,.p (.int .i64 b))] []) (za8 GS0 (at_ cS [1,0]) (za8 GS0 (at_ cS [1,1,0]) (za8 GS0 (at_ cS [1,1,1,0]) (za8 GS0 (at_ cS [1,1,1,1,0,0]) zEx))))=cond (((decide (a<(0:Int)))||(decide (b>(s.length:Int))))||(decide (a>b))) (some (.tup [.p .nil,.p (.int .i64 a)],[])) (some (.tup [.p (.int .i64 (-1)),.p .nil,.ref 7 0,.ref 8 0,.clo (.func 633) [] [.ref 1001 0,.ref 1002 0,.ref 1003 0]],[(7,.cells [.p (.int .i64 b)]),(8,.cells [.arr 81]),(81,.larr 9 true 1 (.dat .str ([]:List (List UInt8)))),(1001,.cells [.p (.int .i64 a)]),(1002,.cells [.p (.int .i64 b)]),(1003,.cells [.p (.str s)])])):=
 Eq.trans (show yV GS0 zaY [] (at_ cS [0]) (mkS [(0,.p (.str s)),(1,.p (.int .i64 a)),(2,.p (.int .i64 b))] []) (za8 GS0 (at_ cS [1,0]) (za8 GS0 (at_ cS [1,1,0]) (za8 GS0 (at_ cS [1,1,1,0]) (za8 GS0 (at_ cS [1,1,1,1,0,0]) zEx))))=need ((!(decide (a<(0:Int))))=true->(!(decide (a<(0:Int))))=true) (need ((!(decide (a<(0:Int))))=true->(!(decide (a<(0:Int))))=true) (need ((!(decide (a<(0:Int))))=true->(!(decide (a<(0:Int))))=true) (need ((decide (a<(0:Int)))=false->(!(decide (a<(0:Int))))=true) (need ((!((decide (a<(0:Int)))||(decide (b>(s.length:Int)))))=true->(!((decide (a<(0:Int)))||(decide (b>(s.length:Int)))))=true) (need ((!((decide (a<(0:Int)))||(decide (b>(s.length:Int)))))=true->(!((decide (a<(0:Int)))||(decide (b>(s.length:Int)))))=true) (need (((decide (a<(0:Int)))||(decide (b>(s.length:Int))))=false->(!((decide (a<(0:Int)))||(decide (b>(s.length:Int)))))=true) (cond (((decide (a<(0:Int)))||(decide (b>(s.length:Int))))||(decide (a>b))) (some (.tup [.p .nil,.p (.int .i64 a)],[])) (some (.tup [.p (.int .i64 (-1)),.p .nil,.ref 7 0,.ref 8 0,.clo (.func 633) [] [.ref 1001 0,.ref 1002 0,.ref 1003 0]],[(7,.cells [.p (.int .i64 b)]),(8,.cells [.arr 81]),(81,.larr 9 true 1 (.dat .str ([]:List (List UInt8)))),(1001,.cells [.p (.int .i64 a)]),(1002,.cells [.p (.int .i64 b)]),(1003,.cells [.p (.str s)])]))))))))) by kernel_rfl) (zj (show(!(decide (a<(0:Int))))=true->(!(decide (a<(0:Int))))=true from(fun q0=>q0)) (zj (show(!(decide (a<(0:Int))))=true->(!(decide (a<(0:Int))))=true from(fun q0=>q0)) (zj (show(!(decide (a<(0:Int))))=true->(!(decide (a<(0:Int))))=true from(fun q0=>q0)) (zj (show(decide (a<(0:Int)))=false->(!(decide (a<(0:Int))))=true from(fun q0=>(zk7 q0))) (zj (show(!((decide (a<(0:Int)))||(decide (b>(s.length:Int)))))=true->(!((decide (a<(0:Int)))||(decide (b>(s.length:Int)))))=true from(fun q0=>q0)) (zj (show(!((decide (a<(0:Int)))||(decide (b>(s.length:Int)))))=true->(!((decide (a<(0:Int)))||(decide (b>(s.length:Int)))))=true from(fun q0=>q0)) (zj (show((decide (a<(0:Int)))||(decide (b>(s.length:Int))))=false->(!((decide (a<(0:Int)))||(decide (b>(s.length:Int)))))=true from(fun q0=>(zk7 q0))) (rfl))))))))
def zzS:Cut:=⟨[0,1,2,3,5,6],[⟨.fix 1005,1005,.cells []⟩,⟨.fix 1004,1004,.cells []⟩,⟨.fix 7,7,.cells []⟩,⟨.fix 8,8,.cells []⟩,⟨.cell 8 0,81,.cells []⟩,⟨.fix 1001,1001,.cells []⟩,⟨.fix 1002,1002,.cells []⟩,⟨.fix 1003,1003,.cells []⟩]⟩
noncomputable def GI:Cfg:=⟨Tryz.prog,ze0 [(104,zkE),(308,zt2)],zgI [],34,za7,[],[]⟩
theorem zpv:yQ Tryz.prog GI.env:=zbi (l:=[(104,zkE),(308,zt2)]) ⟨zyk.any,zHc.any,trivial⟩
theorem zvd:zal Tryz.prog GI.envR:=zb7 (l:=[]) trivial
theorem zDo(l:Nat)(s:List UInt8)(body i b:Int)(g:List (List UInt8))(rec:Loop):yV GI zaY [] (at_ cI [0,0,0]) (mkS [(0,.clo (.yield l) [] []),(1,.ref 1001 0),(2,.ref 1002 0),(3,.ref 1003 0)] (oI body g i b s rec)) (za8 GI (at_ cI [0,0,1,0,0]) (za8 GI (at_ cI [0,0,1,0,1,0]) (zgi za7 zzS)))=cond (decide (i<b)) (need (0<=i/\i<=b/\b<=(s.length:Int)) (cond (decide ((ixS ((s.take (b).toNat).drop (i).toNat) (10:Int))>=(0:Int))) (need (0<=(ixS ((s.take (b).toNat).drop (i).toNat) (10:Int))/\(ixS ((s.take (b).toNat).drop (i).toNat) (10:Int))<=(((s.take (b).toNat).drop (i).toNat).length:Int)) (need ((((s.take (b).toNat).drop (i).toNat).take (ixS ((s.take (b).toNat).drop (i).toNat) (10:Int)).toNat).length<=1000000) (need (zQ (i+(ixS ((s.take (b).toNat).drop (i).toNat) (10:Int)))) (need (zQ ((i+(ixS ((s.take (b).toNat).drop (i).toNat) (10:Int)))+(1:Int))) (some (.tup [.p (.int .i64 (-1)),.clo (.yield l) [] [],.ref 1001 0,.ref 1002 0,.ref 1003 0,.p (.str (zbj (((s.take (b).toNat).drop (i).toNat).take (ixS ((s.take (b).toNat).drop (i).toNat) (10:Int)).toNat) ([13]:List UInt8))),.p (.int .i64 ((i+(ixS ((s.take (b).toNat).drop (i).toNat) (10:Int)))+(1:Int)))],(oI body g i b s rec))))))) (some (.tup [.p (.int .i64 (-1)),.clo (.yield l) [] [],.ref 1001 0,.ref 1002 0,.ref 1003 0,.p (.str ((s.take (b).toNat).drop (i).toNat)),.p (.int .i64 b)],(oI body g i b s rec))))) (some (.tup [.p (.int .i64 (0)),.clo (.yield l) [] [],.ref 1001 0,.ref 1002 0,.ref 1003 0,.any,.any],(oI body g i b s rec))):=by kernel_rfl
def zHs:Cut:=⟨[0,1,2,3],[⟨.fix 1005,1005,.cells []⟩,⟨.fix 1004,1004,.cells []⟩,⟨.fix 7,7,.cells []⟩,⟨.fix 8,8,.cells []⟩,⟨.cell 8 0,81,.cells []⟩,⟨.fix 1001,1001,.cells []⟩,⟨.fix 1002,1002,.cells []⟩,⟨.fix 1003,1003,.cells []⟩]⟩
theorem zED(l:Nat)(s:List UInt8)(body i b:Int)(g:List (List UInt8))(nx:Int)(c:Bool)(rec:Loop):yV GI zaY [] (at_ cI [0,0,1,0,1,1,0,1]) (mkS [(0,.clo (.yield l) [] []),(1,.ref 1001 0),(2,.ref 1002 0),(3,.ref 1003 0),(6,.p (.int .i64 nx)),(32,.p (.bool c))] (oI body g i b s rec)) (za8 GI (at_ cI [0,0,1,0,1,1,1]) (zgi za7 zHs))=cond (c) (some (.tup [.p (.int .i64 (-2)),.clo (.yield l) [] [],.ref 1001 0,.ref 1002 0,.ref 1003 0],(oI body g i b s rec))) (some (.tup [.p (.int .i64 (-1)),.clo (.yield l) [] [],.ref 1001 0,.ref 1002 0,.ref 1003 0],(oI body g nx b s rec))):=by kernel_rfl
noncomputable def rfA:Code:=match at_ cS [1,1,1,1,0,1,0]with|.rangeFunc _ _ x _=>x|c=>c
noncomputable def rfB:Code:=match at_ cS [1,1,1,1,0,1,0]with|.rangeFunc _ _ _ x=>x|c=>c
noncomputable def GR:Cfg:=⟨Tryz.prog,ze0 [],zgI [],98,za7,[],[]⟩
theorem zAC:yQ Tryz.prog GR.env:=zbi (l:=[]) trivial
theorem zvc:zal Tryz.prog GR.envR:=zb7 (l:=[]) trivial
def cutA:Cut:=⟨[7,8,9,10],[⟨.fix 1005,1005,.cells []⟩,⟨.fix 1004,1004,.cells []⟩,⟨.fix 7,7,.cells []⟩,⟨.fix 8,8,.cells []⟩,⟨.cell 8 0,81,.cells []⟩,⟨.fix 1001,1001,.cells []⟩,⟨.fix 1002,1002,.cells []⟩,⟨.fix 1003,1003,.cells []⟩]⟩
def zE5:Cut:=⟨[],[⟨.fix 1005,1005,.cells []⟩,⟨.fix 1004,1004,.cells []⟩,⟨.fix 7,7,.cells []⟩,⟨.fix 8,8,.cells []⟩,⟨.cell 8 0,81,.cells []⟩,⟨.fix 1001,1001,.cells []⟩,⟨.fix 1002,1002,.cells []⟩,⟨.fix 1003,1003,.cells []⟩]⟩
theorem zFh(s t:List UInt8)(body i b nx:Int)(g:List (List UInt8))(rec:Loop):yV GR zaY [] rfA (mkS [(7,.ref 7 0),(8,.ref 8 0),(35,.p (.str t)),(36,.p (.int .i64 nx))] (oI body g i b s rec)) (zgi za7 cutA)=some (.tup [.p (.int .i64 (-1)),.ref 7 0,.ref 8 0,.p (.str t),.p (.int .i64 nx)],(oI body g i b s rec)):=by kernel_rfl
theorem zD4(s t:List UInt8)(body i b nx:Int)(g:List (List UInt8))(rec:Loop):yV GR zaY [] rfB (mkS [(7,.ref 7 0),(8,.ref 8 0),(9,.p (.str t)),(10,.p (.int .i64 nx))] (oI body g i b s rec)) (zgi za7 zE5)=cond (t==([]:List UInt8)) (some (.tup [.p (.int .i64 (0))],(oI nx g i b s rec))) (need ((decide ((g.length:Int)>(0:Int)))=true->0<=(0:Int)/\(0:Int)<(t.length:Int)) (need (((decide ((g.length:Int)>(0:Int)))&&(!(((t.getD ((0:Int)).toNat 0).toNat:Int)==(32:Int))))=true->0<=(0:Int)/\(0:Int)<(t.length:Int)) (cond ((decide ((g.length:Int)>(0:Int)))&&((((t.getD ((0:Int)).toNat 0).toNat:Int)==(32:Int))||(((t.getD ((0:Int)).toNat 0).toNat:Int)==(9:Int)))) (need (zQ ((g.length:Int)-(1:Int))) (need (0<=((g.length:Int)-(1:Int))/\((g.length:Int)-(1:Int))<(g.length:Int)) (need (((g.length:Int)-(1:Int)).toNat<g.length) (need (zlh ((g.getD (((g.length:Int)-(1:Int)).toNat) []).length+t.length)) (need (0<=((g.length:Int)-(1:Int))/\((g.length:Int)-(1:Int))<(g.length:Int)) (need (((g.length:Int)-(1:Int)).toNat<g.length) (some (.tup [.p (.int .i64 (-1))],(oI body (g.set (((g.length:Int)-(1:Int)).toNat) ((g.getD (((g.length:Int)-(1:Int)).toNat) [])++t)) i b s rec))))))))) (need ((g.length+[t].length)*16<=140737488355328) (some (.tup [.p (.int .i64 (-1))],(oI body (g++[t]) i b s rec))))))):=
 Eq.trans (show yV GR zaY [] rfB (mkS [(7,.ref 7 0),(8,.ref 8 0),(9,.p (.str t)),(10,.p (.int .i64 nx))] (oI body g i b s rec)) (zgi za7 zE5)=cond (t==([]:List UInt8)) (some (.tup [.p (.int .i64 (0))],(oI nx g i b s rec))) (need ((decide ((g.length:Int)>(0:Int)))=true->(decide ((g.length:Int)>(0:Int)))=true) (need ((decide ((g.length:Int)>(0:Int)))=true->0<=(0:Int)/\(0:Int)<(t.length:Int)) (need ((decide ((g.length:Int)>(0:Int)))=true->(decide ((g.length:Int)>(0:Int)))=true) (need ((decide ((g.length:Int)>(0:Int)))=true->(decide ((g.length:Int)>(0:Int)))=true) (need (((decide ((g.length:Int)>(0:Int)))&&(!(((t.getD ((0:Int)).toNat 0).toNat:Int)==(32:Int))))=true->((decide ((g.length:Int)>(0:Int)))&&(!(((t.getD ((0:Int)).toNat 0).toNat:Int)==(32:Int))))=true) (need (((decide ((g.length:Int)>(0:Int)))&&(!(((t.getD ((0:Int)).toNat 0).toNat:Int)==(32:Int))))=true->0<=(0:Int)/\(0:Int)<(t.length:Int)) (need (((decide ((g.length:Int)>(0:Int)))&&(!(((t.getD ((0:Int)).toNat 0).toNat:Int)==(32:Int))))=true->((decide ((g.length:Int)>(0:Int)))&&(!(((t.getD ((0:Int)).toNat 0).toNat:Int)==(32:Int))))=true) (need ((decide ((g.length:Int)>(0:Int)))=true->(decide ((g.length:Int)>(0:Int)))=true) (need ((decide ((g.length:Int)>(0:Int)))=true->(((t.getD ((0:Int)).toNat 0).toNat:Int)==(32:Int))=false->((decide ((g.length:Int)>(0:Int)))&&(!(((t.getD ((0:Int)).toNat 0).toNat:Int)==(32:Int))))=true) (need ((decide ((g.length:Int)>(0:Int)))=true->(decide ((g.length:Int)>(0:Int)))=true) (cond ((decide ((g.length:Int)>(0:Int)))&&((((t.getD ((0:Int)).toNat 0).toNat:Int)==(32:Int))||(((t.getD ((0:Int)).toNat 0).toNat:Int)==(9:Int)))) (need (zQ ((g.length:Int)-(1:Int))) (need (0<=((g.length:Int)-(1:Int))/\((g.length:Int)-(1:Int))<(g.length:Int)) (need (((g.length:Int)-(1:Int)).toNat<g.length) (need (zlh ((g.getD (((g.length:Int)-(1:Int)).toNat) []).length+t.length)) (need (0<=((g.length:Int)-(1:Int))/\((g.length:Int)-(1:Int))<(g.length:Int)) (need (((g.length:Int)-(1:Int)).toNat<g.length) (some (.tup [.p (.int .i64 (-1))],(oI body (g.set (((g.length:Int)-(1:Int)).toNat) ((g.getD (((g.length:Int)-(1:Int)).toNat) [])++t)) i b s rec))))))))) (need ((g.length+[t].length)*16<=140737488355328) (some (.tup [.p (.int .i64 (-1))],(oI body (g++[t]) i b s rec))))))))))))))) by kernel_rfl) (yN (rfl) (zj (show(decide ((g.length:Int)>(0:Int)))=true->(decide ((g.length:Int)>(0:Int)))=true from(fun q0=>q0)) (zM (zj (show(decide ((g.length:Int)>(0:Int)))=true->(decide ((g.length:Int)>(0:Int)))=true from(fun q0=>q0)) (zj (show(decide ((g.length:Int)>(0:Int)))=true->(decide ((g.length:Int)>(0:Int)))=true from(fun q0=>q0)) (zj (show((decide ((g.length:Int)>(0:Int)))&&(!(((t.getD ((0:Int)).toNat 0).toNat:Int)==(32:Int))))=true->((decide ((g.length:Int)>(0:Int)))&&(!(((t.getD ((0:Int)).toNat 0).toNat:Int)==(32:Int))))=true from(fun q0=>q0)) (zM (zj (show((decide ((g.length:Int)>(0:Int)))&&(!(((t.getD ((0:Int)).toNat 0).toNat:Int)==(32:Int))))=true->((decide ((g.length:Int)>(0:Int)))&&(!(((t.getD ((0:Int)).toNat 0).toNat:Int)==(32:Int))))=true from(fun q0=>q0)) (zj (show(decide ((g.length:Int)>(0:Int)))=true->(decide ((g.length:Int)>(0:Int)))=true from(fun q0=>q0)) (zj (show(decide ((g.length:Int)>(0:Int)))=true->(((t.getD ((0:Int)).toNat 0).toNat:Int)==(32:Int))=false->((decide ((g.length:Int)>(0:Int)))&&(!(((t.getD ((0:Int)).toNat 0).toNat:Int)==(32:Int))))=true from(fun q0 q1=>(zAm q0 (zk7 q1)))) (zj (show(decide ((g.length:Int)>(0:Int)))=true->(decide ((g.length:Int)>(0:Int)))=true from(fun q0=>q0)) (rfl))))))))))))
def oR(body:Int)(g:List (List UInt8)):List (Nat×AObj):=[(7,.cells [.p (.int .i64 body)]),(8,.cells [.arr 81]),(81,.larr 9 true 1 (.dat .str g))]
abbrev lR:List (Nat×AV):=[(6,.p .nil),(7,.ref 7 0),(8,.ref 8 0)]
def ziT:Cut:=⟨[6,7,8],[⟨.slot 7,7,.cells []⟩,⟨.slot 8,8,.cells []⟩,⟨.cell 8 0,81,.cells []⟩]⟩
noncomputable def GT:Cfg:=⟨Tryz.prog,ze0 [(531,zjW)],zgI [],98,[],[([0,1,0,1,1,1,1,1],⟨[6,7,66,67,68],[⟨.slot 6,6,(.larr 509 false 2 (.dat (.pair .str .str) ([]:List (List UInt8×List UInt8))))⟩,⟨.slot 7,7,.cells []⟩,⟨.slot 66,66,.cells []⟩]⟩),([1,0,1,0,0,1,1,0,0,1,0,1,1,1,1,1],⟨[6,7,13,66,67,68,84],[⟨.slot 6,6,(.larr 509 false 2 (.dat (.pair .str .str) ([]:List (List UInt8×List UInt8))))⟩,⟨.slot 7,7,.cells []⟩,⟨.slot 66,66,.cells []⟩]⟩),([1,1,1,0,0,1,0,1,1,1,1,1],⟨[6,7,66,67,68],[⟨.slot 6,6,(.larr 509 false 2 (.dat (.pair .str .str) ([]:List (List UInt8×List UInt8))))⟩,⟨.slot 7,7,.cells []⟩,⟨.slot 66,66,.cells []⟩]⟩)],[]⟩
theorem zFs:yQ Tryz.prog GT.env:=zbi (l:=[(531,zjW)]) ⟨zBF.any,trivial⟩
theorem zCY:zal Tryz.prog GT.envR:=zb7 (l:=[]) trivial
noncomputable def zh4(F f1:Nat)(vi1:Int)(vi2:Int)(vl3:List (List UInt8×List UInt8))(vi4:Int)(vl5:List (List UInt8)):Option Ans:=runR GT cS (kP Tryz.prog Tryz.f421.results.toList) F [] [1,1,1,1,1,0,1,0] f1 [(6,.arr 6),(7,.ref 7 0),(66,.arr 66),(67,.p (.int .i64 vi1)),(68,.p (.int .i64 vi2))] [(6,.larr 509 false 2 (.dat (.pair .str .str) vl3)),(7,.cells [.p (.int .i64 vi4)]),(66,.larr 9 true 1 (.dat .str vl5))]
noncomputable def zpx(F f1:Nat)(vs6:List UInt8)(vi1:Int)(vi2:Int)(vc7:Bool)(vl3:List (List UInt8×List UInt8))(vi4:Int)(vl5:List (List UInt8)):Option Ans:=zD1 GT cS (kP Tryz.prog Tryz.f421.results.toList) F [f1] [1,1,1,1,1,0,1,0,0,1,1,0,0,1,0,1] [(6,.arr 6),(7,.ref 7 0),(13,.p (.str vs6)),(66,.arr 66),(67,.p (.int .i64 vi1)),(68,.p (.int .i64 vi2)),(84,.p (.bool vc7))] [(6,.larr 509 false 2 (.dat (.pair .str .str) vl3)),(7,.cells [.p (.int .i64 vi4)]),(66,.larr 9 true 1 (.dat .str vl5))]
noncomputable def zh3(F f1:Nat)(vi1:Int)(vi2:Int)(vl8:List (List UInt8×List UInt8))(vi9:Int)(vl10:List (List UInt8)):Option Ans:=zD1 GT cS (kP Tryz.prog Tryz.f421.results.toList) F [f1] [1,1,1,1,1,0,1,0,0,1,1,1] [(6,.arr 6),(7,.ref 7 0),(66,.arr 66),(67,.p (.int .i64 vi1)),(68,.p (.int .i64 vi2))] [(6,.larr 509 false 2 (.dat (.pair .str .str) vl8)),(7,.cells [.p (.int .i64 vi9)]),(66,.larr 9 true 1 (.dat .str vl10))]
theorem zmb(F f1:Nat)(vi1:Int)(vi2:Int)(vl3:List (List UInt8×List UInt8))(vi4:Int)(vl5:List (List UInt8)):zh4 F (f1+1) vi1 vi2 vl3 vi4 vl5=cond (decide (vi2<vi1)) (need (0<=vi2/\vi2<(vl5.length:Int)) (need ((vi2).toNat<vl5.length) (need ((vi2==(0:Int))=true->0<=(0:Int)/\(0:Int)<((vl5.getD ((vi2).toNat) []).length:Int)) (need (((vi2==(0:Int))&&(!((((vl5.getD ((vi2).toNat) []).getD ((0:Int)).toNat 0).toNat:Int)==(32:Int))))=true->0<=(0:Int)/\(0:Int)<((vl5.getD ((vi2).toNat) []).length:Int)) (zpx F f1 (vl5.getD ((vi2).toNat) []) vi1 vi2 ((vi2==(0:Int))&&(((((vl5.getD ((vi2).toNat) []).getD ((0:Int)).toNat 0).toNat:Int)==(32:Int))||((((vl5.getD ((vi2).toNat) []).getD ((0:Int)).toNat 0).toNat:Int)==(9:Int)))) vl3 vi4 vl5))))) (some (.tup [.p (.list 2 (.dat (.pair .str .str) vl3)),.p (.int .i64 vi4)],[])):=
 Eq.trans (show zh4 F (f1+1) vi1 vi2 vl3 vi4 vl5=cond (decide (vi2<vi1)) (need (0<=vi2/\vi2<(vl5.length:Int)) (need ((vi2).toNat<vl5.length) (need ((vi2==(0:Int))=true->(vi2==(0:Int))=true) (need ((vi2==(0:Int))=true->0<=(0:Int)/\(0:Int)<((vl5.getD ((vi2).toNat) []).length:Int)) (need ((vi2==(0:Int))=true->(vi2==(0:Int))=true) (need ((vi2==(0:Int))=true->(vi2==(0:Int))=true) (need (((vi2==(0:Int))&&(!((((vl5.getD ((vi2).toNat) []).getD ((0:Int)).toNat 0).toNat:Int)==(32:Int))))=true->((vi2==(0:Int))&&(!((((vl5.getD ((vi2).toNat) []).getD ((0:Int)).toNat 0).toNat:Int)==(32:Int))))=true) (need (((vi2==(0:Int))&&(!((((vl5.getD ((vi2).toNat) []).getD ((0:Int)).toNat 0).toNat:Int)==(32:Int))))=true->0<=(0:Int)/\(0:Int)<((vl5.getD ((vi2).toNat) []).length:Int)) (need (((vi2==(0:Int))&&(!((((vl5.getD ((vi2).toNat) []).getD ((0:Int)).toNat 0).toNat:Int)==(32:Int))))=true->((vi2==(0:Int))&&(!((((vl5.getD ((vi2).toNat) []).getD ((0:Int)).toNat 0).toNat:Int)==(32:Int))))=true) (need ((vi2==(0:Int))=true->(vi2==(0:Int))=true) (need ((vi2==(0:Int))=true->((((vl5.getD ((vi2).toNat) []).getD ((0:Int)).toNat 0).toNat:Int)==(32:Int))=false->((vi2==(0:Int))&&(!((((vl5.getD ((vi2).toNat) []).getD ((0:Int)).toNat 0).toNat:Int)==(32:Int))))=true) (need ((vi2==(0:Int))=true->(vi2==(0:Int))=true) (zpx F f1 (vl5.getD ((vi2).toNat) []) vi1 vi2 ((vi2==(0:Int))&&(((((vl5.getD ((vi2).toNat) []).getD ((0:Int)).toNat 0).toNat:Int)==(32:Int))||((((vl5.getD ((vi2).toNat) []).getD ((0:Int)).toNat 0).toNat:Int)==(9:Int)))) vl3 vi4 vl5))))))))))))) (some (.tup [.p (.list 2 (.dat (.pair .str .str) vl3)),.p (.int .i64 vi4)],[])) by kernel_rfl) (yN (zM (zM (zj (show(vi2==(0:Int))=true->(vi2==(0:Int))=true from(fun q0=>q0)) (zM (zj (show(vi2==(0:Int))=true->(vi2==(0:Int))=true from(fun q0=>q0)) (zj (show(vi2==(0:Int))=true->(vi2==(0:Int))=true from(fun q0=>q0)) (zj (show((vi2==(0:Int))&&(!((((vl5.getD ((vi2).toNat) []).getD ((0:Int)).toNat 0).toNat:Int)==(32:Int))))=true->((vi2==(0:Int))&&(!((((vl5.getD ((vi2).toNat) []).getD ((0:Int)).toNat 0).toNat:Int)==(32:Int))))=true from(fun q0=>q0)) (zM (zj (show((vi2==(0:Int))&&(!((((vl5.getD ((vi2).toNat) []).getD ((0:Int)).toNat 0).toNat:Int)==(32:Int))))=true->((vi2==(0:Int))&&(!((((vl5.getD ((vi2).toNat) []).getD ((0:Int)).toNat 0).toNat:Int)==(32:Int))))=true from(fun q0=>q0)) (zj (show(vi2==(0:Int))=true->(vi2==(0:Int))=true from(fun q0=>q0)) (zj (show(vi2==(0:Int))=true->((((vl5.getD ((vi2).toNat) []).getD ((0:Int)).toNat 0).toNat:Int)==(32:Int))=false->((vi2==(0:Int))&&(!((((vl5.getD ((vi2).toNat) []).getD ((0:Int)).toNat 0).toNat:Int)==(32:Int))))=true from(fun q0 q1=>(zAm q0 (zk7 q1)))) (zj (show(vi2==(0:Int))=true->(vi2==(0:Int))=true from(fun q0=>q0)) (rfl))))))))))))) (rfl))
theorem ztK(F f1:Nat)(vs6:List UInt8)(vi1:Int)(vi2:Int)(vc7:Bool)(vl3:List (List UInt8×List UInt8))(vi4:Int)(vl5:List (List UInt8)):zpx F f1 vs6 vi1 vi2 vc7 vl3 vi4 vl5=cond (vc7) (zh3 F f1 vi1 vi2 vl3 vi4 vl5) (need (vs6.length<=1000000) (cond ((zeg vs6).2) (need ((vl3.length+[((zeg vs6).1.1,(zeg vs6).1.2)].length)*32<=140737488355328) (zh3 F f1 vi1 vi2 (vl3++[((zeg vs6).1.1,(zeg vs6).1.2)]) vi4 vl5)) (zh3 F f1 vi1 vi2 vl3 vi4 vl5))):=by kernel_rfl
theorem ztJ(F f1:Nat)(vi1:Int)(vi2:Int)(vl8:List (List UInt8×List UInt8))(vi9:Int)(vl10:List (List UInt8)):zh3 F f1 vi1 vi2 vl8 vi9 vl10=need (zQ (vi2+(1:Int))) (zh4 F f1 vi1 (vi2+(1:Int)) vl8 vi9 vl10):=by kernel_rfl
theorem zBq(F:Nat)(body:Int)(g:List (List UInt8)):yV GT (zjO GT F) [1,1,1,1,1] (at_ cS [1,1,1,1,1]) (mkS lR (oR body g)) (kP Tryz.prog Tryz.f421.results.toList)=zh4 F F (g.length:Int) (0:Int) ([]:List (List UInt8×List UInt8)) body g:=by kernel_rfl
noncomputable def yc(fn:FuncId)(tm:Array Value)(D:Nat)(st:LoopState)(pe:Option Code):Loop:={ state:=st,pending:=pe,fn:=fn,tmps:=tm,params:=#[35,36],assign:=rfA,body:=rfB,defers:=D }
def stp(t:List UInt8)(nx body:Int)(g:List (List UInt8)):Option Code×Int×List (List UInt8):=
 if t=[] then(some (.exit 0),nx,g) else if g≠[]/\zcm t=true then(none,body,g.set (g.length-1) (g.getD (g.length-1) []++t)) else(none,body,g++[t])
def tgJ(j:Option Code):AV:=match j with|none=>.p (.int .i64 (-1))|some _=>.p (.int .i64 0)
theorem zAa(c:UInt8):(((c.toNat:Int)==(32:Int))||((c.toNat:Int)==(9:Int)))=(c==32||c==9):=by
 have h:∀ k:Nat,k<256->(((c.toNat:Int)==((k:Nat):Int))=(c==UInt8.ofNat k)):=by
  intro k hk
  rw[Bool.eq_iff_iff,beq_iff_eq,beq_iff_eq]
  constructor
  .intro e
   have e:c.toNat=k:=by omega
   rw[<-e];simp
  .intro e;rw[e];simp;omega
 rw[show(32:Int)=((32:Nat):Int) from rfl,show(9:Int)=((9:Nat):Int) from rfl,h 32 (by decide),h 9 (by decide)];rfl
theorem zll{t:List UInt8}(h0:t≠[]):(((((t.getD ((0:Int)).toNat 0).toNat:Int)==(32:Int)))||(((t.getD ((0:Int)).toNat 0).toNat:Int)==(9:Int)))=zcm t:=by
 cases t with
 | nil=>exact absurd rfl h0
 | cons c r=>exact zAa c
theorem ze7{α:Type}{l:List α}{i:Nat}(h:i<l.length)(d:α):l.getD i d ∈ l:=by
 rw[List.getD_eq_getElem?_getD,List.getElem?_eq_getElem h];exact List.getElem_mem h
theorem zBo(s t:List UInt8)(body i b nx:Int)(g:List (List UInt8))(rec:Loop)(hg:g.length<=1000000)(hx:∀ x ∈ g,x.length<=1000000)(ht:t.length<=1000000):
 yV GR zaY [] rfB (mkS [(7,.ref 7 0),(8,.ref 8 0),(9,.p (.str t)),(10,.p (.int .i64 nx))] (oI body g i b s rec)) (zgi za7 zE5)=some (.tup [tgJ (stp t nx body g).1],oI (stp t nx body g).2.1 (stp t nx body g).2.2 i b s rec):=by
 rw[zD4]
 unfold stp
 by_cases h0:t=[]
 .rw [if_pos h0];exact yL (by simpa using h0) rfl
 .rw [if_neg h0]
  refine yM (by simpa using h0) ?_
  have hl:=List.length_pos_iff.2 h0
  refine zk (fun _=>⟨by omega,by omega⟩) (zk (fun _=>⟨by omega,by omega⟩) ?_)
  rw[zll h0]
  by_cases h1:g≠[]/\zcm t=true
  .rw [if_pos h1]
   have hgl:=List.length_pos_iff.2 h1.1
   refine yL (by rw[h1.2,Bool.and_true];simpa using hgl) ?_
   have e:((g.length:Int)-1).toNat=g.length-1:=by omega
   have hlast:=hx _ (ze7 (show g.length-1<g.length by omega) [])
   rw[e]
   refine zk (by unfold zQ;omega) (zk ⟨by omega,by omega⟩ (zk (by omega) (zk (by unfold zlh;omega) (zk ⟨by omega,by omega⟩ (zk (by omega) rfl)))))
  .rw [if_neg h1]
   refine yM ?_ (zk (by simp;omega) rfl)
   cases hb:zcm t with
   | false=>rw[Bool.and_false]
   | true=>
    have:g=[]:=Classical.byContradiction fun q=>h1 ⟨q,hb⟩
    rw[this];rfl
abbrev zmG(γ γ':Nat->Option G):Prop:=∀ k ∈ za7,∀ x,γ k=some x->γ' k=some x
theorem zmG.trans{γ γ1 γ2:Nat->Option G}(h:zmG γ γ1)(k:zmG γ1 γ2):zmG γ γ2:=fun i hi x hx=>k i hi x (h i hi x hx)
theorem zss{γ:Nat->Option G}{M:Mem}{w:World}{body i b:Int}{g:List (List UInt8)}{s:List UInt8}{l:Nat}{r:Loop}(r':Loop)(h:za5 γ M w (oI body g i b s r))(hl:γ 1005=some (.cell l)):
 za5 γ M (w.putObj l (.loop r')) (oI body g i b s r')/\Chg γ (oI body g i b s r) M w γ (oI body g i b s r') M (w.putObj l (.loop r')):=
 h.setraw (id:=1005) (x:=.loop r) (y:=.loop r') zc6 hl zc6 zyC
theorem zhc{γ:Nat->Option G}{M:Mem}{w:World}{s t:List UInt8}{body i b nx:Int}{g:List (List UInt8)}{fn:FuncId}{tm:Array Value}{D l:Nat}{vt vn:Value}
 (hH:za5 γ M w (oI body g i b s (yc fn tm D .ready none))) (hl:γ 1005=some (.cell l)) (h7:ARel γ M (.ref 7 0) (tm.getD 7 undef)) (h8:ARel γ M (.ref 8 0) (tm.getD 8 undef))
 (ht:ARel γ M (.p (.str t)) vt) (hn:ARel γ M (.p (.int .i64 nx)) vn) (hsz:tm.size=98) (hg:g.length<=1000000) (hx:∀ x ∈ g,x.length<=1000000) (htl:t.length<=1000000):
 RoundIn (FW none) 0 Tryz.prog l fn ((tm.setIfInBounds 35 vt).setIfInBounds 36 vn) rfA rfB w fun e W'=>∃ (jump:Option Code) (γ':Nat->Option G) (M':Mem),e=.returned (.bool jump.isNone)/\(stp t nx body g).1=jump/\
  za5 γ' M' W' (oI (stp t nx body g).2.1 (stp t nx body g).2.2 i b s (yc fn tm D (if jump.isNone then .ready else .done) jump))/\
  Chg γ (oI body g i b s (yc fn tm D .ready none)) M w γ' (oI (stp t nx body g).2.1 (stp t nx body g).2.2 i b s (yc fn tm D (if jump.isNone then .ready else .done) jump)) M' W'/\zmG γ γ':=by
 refine RoundIn.mono (zkQ (r:=yc fn tm D .ready none) (R:=fun jump W3=>∃ (γ':Nat->Option G) (M':Mem),(stp t nx body g).1=jump/\za5 γ' M' W3 (oI (stp t nx body g).2.1 (stp t nx body g).2.2 i b s (yc fn tm D .busy none))/\
  Chg γ (oI body g i b s (yc fn tm D .ready none)) M w γ' (oI (stp t nx body g).2.1 (stp t nx body g).2.2 i b s (yc fn tm D .busy none)) M' W3/\zmG γ γ') rfl ?_) ?_
 .have hG:zbV GR Tryz.prog (zcx w M γ (oI body g i b s (yc fn tm D .ready none)) za7 98 (some l) []):=⟨rfl,zAC,zvc,zai,zek⟩
  have hs0:St (zcx w M γ (oI body g i b s (yc fn tm D .ready none)) za7 98 (some l) []) (mkS [(7,.ref 7 0),(8,.ref 8 0),(35,.p (.str t)),(36,.p (.int .i64 nx))] (oI body g i b s (yc fn tm D .ready none))) { tmps:=(tm.setIfInBounds 35 vt).setIfInBounds 36 vn,defers:=[] } w:=by
   refine⟨γ,M,hH.lend (yw ?_ (yw ?_ (yw ?_ (yw ?_ zkH)))) rfl (by simp[hsz])⟩
   .rw [zoO (by simp[hsz]),if_neg (by decide),zoO (by simp[hsz]),if_neg (by decide)];exact h7
   .rw [zoO (by simp[hsz]),if_neg (by decide),zoO (by simp[hsz]),if_neg (by decide)];exact h8
   .rw [zoO (by simp[hsz]),if_neg (by decide),zoO (by simp[hsz]),if_pos rfl];exact ht
   .rw [zoO (by simp[hsz]),if_pos rfl];exact hn
  refine yA hG (zFh s t body i b nx g _) hs0 fun e s1 a1 w1 hk1 hs1=>?_
  obtain⟨htag,hsub⟩:=zck (zai (w:=w)) hk1
  have:=zcz htag
  subst this
  obtain⟨γ1,M1,hs1⟩:=hsub _ _ hs1
  obtain⟨hH1,hC1,hK1,hsl1,hdf1,hnt1⟩:=za5.back hs1
  have hl1:=hK1 1005 (by decide) _ hl
  refine⟨(hH1.raw_at zc6 hl1).1,?_⟩
  obtain⟨hH2,hC2⟩:=zss (yc fn tm D .busy none) hH1 hl1
  have hG2:zbV GR Tryz.prog (zcx (w1.putObj l (.loop (yc fn tm D .busy none))) M1 γ1 (oI body g i b s (yc fn tm D .busy none)) za7 98 (some l) []):=⟨rfl,zAC,zvc,zai,zek⟩
  refine yA hG2 (zBo s t body i b nx g (yc fn tm D .busy none) hg hx htl) ⟨γ1,M1,hH2.lend hsl1 hdf1 hnt1⟩ fun e s2 a2 w2 hk2 hs2=>?_
  obtain⟨htag2,hsub2⟩:=zck (zai (w:=w1.putObj l (.loop (yc fn tm D .busy none)))) hk2
  obtain⟨γ2,M2,hs2⟩:=hsub2 _ _ hs2
  obtain⟨hH3,hC3,hK3,_,_,_⟩:=za5.back hs2
  have hl3:=hK3 1005 (by decide) _ hl1
  have hb:=(hH3.raw_at zc6 hl3).1
  have hKK:zmG γ γ2:=fun k hk x hx=>hK3 k hk x (hK1 k hk x hx)
  cases hj:(stp t nx body g).1 with
  | none=>
   rw[hj]at htag2
   have:=zcz htag2
   subst this
   exact⟨hb,γ2,M2,rfl,hH3,(hC1.trans hC2).trans hC3,hKK⟩
  | some c=>
   have hc:c=.exit 0:=by
    unfold stp at hj
    split at hj
    .exact (Option.some.inj hj).symm
    .split at hj <;> cases hj
   rw[hj]at htag2
   have:=zkt (i:=0) htag2
   subst this
   exact⟨hb,γ2,M2,by rw[hc],hH3,(hC1.trans hC2).trans hC3,hKK⟩
 .rintro e W' ⟨jump,W3,he,hW,γ',M',hj,hH,hC,hK⟩
  obtain⟨hH4,hC4⟩:=zss (yc fn tm D (if jump.isNone then .ready else .done) jump) hH (hK 1005 (by decide) _ hl)
  exact⟨jump,γ',M',he,hj,by rw[hW];exact hH4,by rw[hW];exact hC.trans hC4,hK⟩
def zdq(s:List UInt8)(i b:Nat):List UInt8×Nat:=
 if ixS ((s.take b).drop i) 10>=0 then(zbj (((s.take b).drop i).take (ixS ((s.take b).drop i) 10).toNat) [13],i+(ixS ((s.take b).drop i) 10).toNat+1) else((s.take b).drop i,b)
theorem zk8{s:List UInt8}{i b:Nat}(hi:i<b)(hb:b<=s.length):zas s i b=(i,(zdq s i b).1,(zdq s i b).2)::zas s (zdq s i b).2 b/\i<(zdq s i b).2/\(zdq s i b).2<=b/\(zdq s i b).1.length<=(zdq s i b).2-i:=by
 have hlen:((s.take b).drop i).length=b-i:=by simp;omega
 have hix:ixS ((s.take b).drop i) 10=Lib.indexByte ((s.take b).drop i) 10:=zsI _ 10
 unfold zdq zas
 rw[hix]
 rcases ziB 10 ((s.take b).drop i)with⟨p,q,e,hp,hk⟩|⟨hn,hk⟩
 .have hl2:p.length+1+q.length=b-i:=by rw[<-hlen,e];simp;omega
  rw[hk,if_pos (by omega),Int.toNat_natCast]
  have hq:(s.take b).drop (i+p.length+1)=q:=by
   rw[Nat.add_assoc,<-List.drop_drop,e,show p.length+1=(p++[(10:UInt8)]).length by simp,show p++10::q=(p++[10])++q by simp,List.drop_left]
  have hp2:((s.take b).drop i).take p.length=p:=by rw[e,List.take_left]
  refine⟨?_,by omega,by dsimp only;omega,?_⟩
  .dsimp only
   rw[hq,hp2,e,zyE [] i hp,List.nil_append]
  .dsimp only
   have:=zpD (((s.take b).drop i).take p.length) [13]
   rw[hp2]at this ⊢
   omega
 .rw [hk,if_neg (by decide)]
  refine⟨?_,hi,Nat.le_refl _,by dsimp only;omega⟩
  have h0:(s.take b).drop i≠[]:=by intro h;rw[h]at hlen;simp at hlen;omega
  rw[zup [] i hn,List.nil_append,if_neg h0,hlen]
  have:(s.take b).drop b=[]:=by rw[List.drop_eq_nil_iff];simp;omega
  dsimp only
  rw[this,lnF,if_pos rfl,show i+(b-i)=b by omega]
theorem zlg{s:List UInt8}{i b:Nat}(h:b<=i):zas s i b=[]:=by
 have:(s.take b).drop i=[]:=by rw[List.drop_eq_nil_iff];simp;omega
 unfold zas;rw[this,lnF,if_pos rfl]
theorem zEB{l:Nat}{s:List UInt8}{i b:Nat}{body:Int}{g:List (List UInt8)}{rec:Loop}(hi:i<b)(hb:b<=s.length)(hs:s.length<=1000000):
 yV GI zaY [] (at_ cI [0,0,0]) (mkS [(0,.clo (.yield l) [] []),(1,.ref 1001 0),(2,.ref 1002 0),(3,.ref 1003 0)] (oI body g i b s rec)) (za8 GI (at_ cI [0,0,1,0,0]) (za8 GI (at_ cI [0,0,1,0,1,0]) (zgi za7 zzS)))=
  some (.tup [.p (.int .i64 (-1)),.clo (.yield l) [] [],.ref 1001 0,.ref 1002 0,.ref 1003 0,.p (.str (zdq s i b).1),.p (.int .i64 ((zdq s i b).2:Nat))],oI body g i b s rec):=by
 rw[zDo]
 have hlen:((s.take b).drop i).length=b-i:=by simp;omega
 refine yL (by simpa using hi) (zk ⟨by omega,by omega,by omega⟩ ?_)
 rw[Int.toNat_natCast,Int.toNat_natCast]
 unfold zdq
 have h:=zyQ ((s.take b).drop i) 10
 by_cases hc:ixS ((s.take b).drop i) 10>=0
 .rw [if_pos hc]
  have e:(i:Int)+ixS ((s.take b).drop i) 10+1=((i+(ixS ((s.take b).drop i) 10).toNat+1:Nat):Int):=by omega
  refine yL (by simpa using hc) (zk ⟨by omega,by omega⟩ (zk (by simp;omega) (zk (by unfold zQ;omega) (zk (by unfold zQ;omega) ?_))))
  rw[e]
 .rw [if_neg hc]
  exact yM (by simpa using hc) rfl
theorem zEC{l:Nat}{s:List UInt8}{i b:Nat}{body:Int}{g:List (List UInt8)}{rec:Loop}(hi:¬ i<b):
 yV GI zaY [] (at_ cI [0,0,0]) (mkS [(0,.clo (.yield l) [] []),(1,.ref 1001 0),(2,.ref 1002 0),(3,.ref 1003 0)] (oI body g i b s rec)) (za8 GI (at_ cI [0,0,1,0,0]) (za8 GI (at_ cI [0,0,1,0,1,0]) (zgi za7 zzS)))=
  some (.tup [.p (.int .i64 0),.clo (.yield l) [] [],.ref 1001 0,.ref 1002 0,.ref 1003 0,.any,.any],oI body g i b s rec):=by
 rw[zDo]
 exact yM (by simp;omega) rfl
noncomputable def zyf:Array Oper:=zHa (at_ cI [0,0,1,0,1,1,0,0])
def cutY:Cut:=⟨[0,1,2,3,6,28,29,30],zzS.own⟩
def cutN:Cut:=⟨[0,1,2,3,6,32],zzS.own⟩
theorem zHe(l:Nat)(s t:List UInt8)(body i b nx:Int)(g:List (List UInt8))(rec:Loop):zu4 Tryz.prog GI.env 34 zyf [0,1,2] (mkS [(0,.clo (.yield l) [] []),(1,.ref 1001 0),(2,.ref 1002 0),(3,.ref 1003 0),(5,.p (.str t)),(6,.p (.int .i64 nx))] (oI body g i b s rec)) za7 cutY=
 some ((.tup [.p (.int .i64 (-1)),.clo (.yield l) [] [],.ref 1001 0,.ref 1002 0,.ref 1003 0,.p (.int .i64 nx),.clo (.yield l) [] [],.p (.str t),.p (.int .i64 nx)],oI body g i b s rec),[]):=by kernel_rfl
theorem zEi(l:Nat)(s:List UInt8)(body i b nx:Int)(g:List (List UInt8))(c:Bool)(rec:Loop):zu4 Tryz.prog GI.env 34 zyf [4] (mkS [(0,.clo (.yield l) [] []),(1,.ref 1001 0),(2,.ref 1002 0),(3,.ref 1003 0),(6,.p (.int .i64 nx)),(31,.p (.bool c))] (oI body g i b s rec)) za7 cutN=
 some ((.tup [.p (.int .i64 (-1)),.clo (.yield l) [] [],.ref 1001 0,.ref 1002 0,.ref 1003 0,.p (.int .i64 nx),.p (.bool (!c))],oI body g i b s rec),[]):=by kernel_rfl
theorem zHx:cI=.block 0 (.loop (.seq (at_ cI [0,0,0]) (.block 1 (.seq (at_ cI [0,0,1,0,0]) (.seq (at_ cI [0,0,1,0,1,0]) (.seq (.seq (.region 5 zyf false) (at_ cI [0,0,1,0,1,1,0,1])) (at_ cI [0,0,1,0,1,1,1]))))))):=by kernel_rfl
theorem y_op:∃ ts type pos after,zyf[3]?=some ⟨some 31,.call ⟨.value (.tmp 28),#[.tmp 29,.tmp 30],ts⟩,type,pos,after,none⟩:=⟨_,_,_,_,rfl⟩
theorem zvJ:List.range zyf.size=[0,1,2]++[3,4]:=by kernel_rfl
theorem zDf{C:Ctx}{γ:Nat->Option G}{M:Mem}{st:S}{a:Act}{w:World}(hs:StG C γ M st a w):∃ v,(results Tryz.f633 a.tmps).run Tryz.prog w=.ok v w:=by
 obtain⟨v,hv,_⟩:=zeK (r:=.tup []) hs Tryz.f633 (by kernel_rfl)
 exact⟨v,hv⟩
theorem zv5{t:List UInt8}{i nx:Nat}{body:Int}{g:List (List UInt8)}{r:List (Nat×List UInt8×Nat)}(h:(stp t (nx:Int) body g).1=none):zaI ((i,t,nx)::r) body g=zaI r (stp t (nx:Int) body g).2.1 (stp t (nx:Int) body g).2.2:=by
 unfold stp at h ⊢
 rw[zaI]
 split at h
 .cases h
 .rename_i h0
  rw[if_neg h0,if_neg h0]
  split <;> rfl
theorem zv4{t:List UInt8}{i nx:Nat}{body:Int}{g:List (List UInt8)}{r:List (Nat×List UInt8×Nat)}{c:Code}(h:(stp t (nx:Int) body g).1=some c):zaI ((i,t,nx)::r) body g=((stp t (nx:Int) body g).2.2,(stp t (nx:Int) body g).2.1)/\c=.exit 0:=by
 unfold stp at h ⊢
 rw[zaI]
 split at h
 .rename_i h0
  rw[if_pos h0,if_pos h0];exact⟨rfl,(Option.some.inj h).symm⟩
 .split at h <;> cases h
theorem zFI{t:List UInt8}{nx body:Int}{g:List (List UInt8)}{i n:Nat}(hi:i<n)(hg:g.length<=i)(hx:∀ x ∈ g,x.length<=i)(ht:t.length<=n-i):(stp t nx body g).2.2.length<=n/\∀ x ∈ (stp t nx body g).2.2,x.length<=n:=by
 unfold stp
 split
 .exact ⟨by dsimp only;omega,fun x h=>by have:=hx x h;omega⟩
 .split
  .rename_i h
   have hgl:=List.length_pos_iff.2 h.1
   have h1:=hx _ (ze7 (show g.length-1<g.length by omega) [])
   refine⟨by simp;omega,fun x h=>?_⟩
   rcases List.mem_or_eq_of_mem_set h with h|h
   .have:=hx x h;omega
   .rw [h,List.length_append];omega
  .refine ⟨by simp;omega,fun x h=>?_⟩
   rcases List.mem_append.1 h with h|h
   .have:=hx x h;omega
   .rw [List.mem_singleton.1 h];omega
theorem zvl{e:Exit}(h:zcP e=.p (.int .i64 (-2))):e=.ret:=by
 cases e with
 | ret=>rfl
 | exit i=>simp[zcP]at h
 | _=>simp[zcP]at h
theorem zz4{C:Ctx}{P:Program}{st:S}{a:Act}{w:World}{o:List (Nat×AObj)}{Gc:Cfg}(hG:zbV Gc P C){nt:Nat}{fx:List Nat}(hC:zaZ C nt fx){c1 c2:Code}{c:Cut}{t:AV}{xs:List AV}{R:Exit->Act->World->Prop}
 (hv:yV Gc zaY [] c1 st (za8 Gc c2 (zgi fx c))=some (.tup (t::xs),o)) (hs:St C st a w)
 (h:∀ e a w,zcP e=t->St C (mkS (List.zip c.slots xs) o) a w->R e a w):c1.wpIn (FW C.rd) 0 P (Exit.then (c2.wpIn (FW C.rd) 0 P R) R) a w:=by
 have key:∀ e s' a' w',zgi fx c e s'=some (.tup (t::xs),o)->St C s' a' w'->R e a' w':=by
  intro e s' a' w' hk hs'
  obtain⟨h1,h2⟩:=zck hC hk
  exact h e a' w' h1 (h2 _ _ hs')
 refine yA hG hv hs fun e s1 a1 w1 hk1 hs1=>?_
 cases e with
 | normal=>exact yA hG (s:=s1) hk1 hs1 fun e s2 a2 w2 hk2 hs2=>key e s2 a2 w2 hk2 hs2
 | exit i=>exact key (.exit i) s1 a1 w1 hk1 hs1
 | ret=>exact key .ret s1 a1 w1 hk1 hs1
 | goto i=>exact key (.goto i) s1 a1 w1 hk1 hs1
 | panic i=>exact key (.panic i) s1 a1 w1 hk1 hs1
 | outgrown=>exact key .outgrown s1 a1 w1 hk1 hs1
theorem zuZ{γ:Nat->Option G}{M:Mem}{fn:Fn}:ARel γ M (.clo fn [] []) (.func fn #[] #[]):=.clo _ _ _ _ _ rfl rfl (fun i hi=>absurd hi (Nat.not_lt_zero _)) (fun i hi=>absurd hi (Nat.not_lt_zero _))
abbrev lI(l:Nat):List (Nat×AV):=[(0,.clo (.yield l) [] []),(1,.ref 1001 0),(2,.ref 1002 0),(3,.ref 1003 0)]
structure IInv(γ1:Nat->Option G)(M1:Mem)(W1:World)(o1:List (Nat×AObj))(s:List UInt8)(b:Nat)(rec:Loop)(fin:List (List UInt8)×Int)(l:Nat)(i:Nat)(body:Int)(g:List (List UInt8))(γ:Nat->Option G)(M:Mem)(a:Act)(w:World):Prop where
 hold:za5 γ M w (oI body g (i:Int) (b:Int) s rec)
 chg:Chg γ1 o1 M1 W1 γ (oI body g (i:Int) (b:Int) s rec) M w
 kept:zmG γ1 γ
 res:zaI (zas s i b) body g=fin
 ib:i<=b
 gl:g.length<=i
 gx:∀ x ∈ g,x.length<=i
 sl:∀ t:Nat,ARel γ M (Am.look t AV.any (lI l)) (a.tmps.getD t undef)
 df:a.defers=[]
 nt:a.tmps.size=34
def zDH(γ1:Nat->Option G)(M1:Mem)(W1:World)(o1:List (Nat×AObj))(s:List UInt8)(b:Nat)(fn:FuncId)(tm:Array Value)(D:Nat)(fin:List (List UInt8)×Int)(W2:World):Prop:=
 ∃ (γ':Nat->Option G) (M':Mem) (i:Int) (st:LoopState) (pe:Option Code),za5 γ' M' W2 (oI fin.2 fin.1 i (b:Int) s (yc fn tm D st pe))/\Chg γ1 o1 M1 W1 γ' (oI fin.2 fin.1 i (b:Int) s (yc fn tm D st pe)) M' W2/\zmG γ1 γ'/\
  ((st=.ready/\pe=none)\/(st=.done/\pe=some (.exit 0)))/\fin.1.length<=b/\∀ x ∈ fin.1,x.length<=b
theorem zBU{γ1:Nat->Option G}{M1:Mem}{W1:World}{s:List UInt8}{a b:Nat}{fn:FuncId}{tm:Array Value}{D l:Nat}{p q r:Value}
 (hH:za5 γ1 M1 W1 (oI (b:Int) [] (a:Int) (b:Int) s (yc fn tm D .ready none))) (hl:γ1 1005=some (.cell l)) (h7:ARel γ1 M1 (.ref 7 0) (tm.getD 7 undef)) (h8:ARel γ1 M1 (.ref 8 0) (tm.getD 8 undef))
 (hp:ARel γ1 M1 (.ref 1001 0) p) (hq:ARel γ1 M1 (.ref 1002 0) q) (hr:ARel γ1 M1 (.ref 1003 0) r) (hsz:tm.size=98) (hab:a<=b) (hb:b<=s.length) (hs:s.length<=1000000):
 Calls Tryz.prog 633 (#[.func (.yield l) #[] #[]]++#[p,q,r]) W1 fun e W2=>(∃ v,e=.returned v)/\zDH γ1 M1 W1 (oI (b:Int) [] (a:Int) (b:Int) s (yc fn tm D .ready none)) s b fn tm D (zaI (zas s a b) (b:Int) []) W2:=by
 obtain⟨o1,ho1⟩:∃ o1,oI (b:Int) [] (a:Int) (b:Int) s (yc fn tm D .ready none)=o1:=⟨_,rfl⟩
 obtain⟨fin,hfin⟩:∃ fin,zaI (zas s a b) (b:Int) []=fin:=⟨_,rfl⟩
 rw[hfin]
 refine zbs (r:=none) (n:=0) |>.1 (callsIn_of_wp (F:=FW none) (fn:=Tryz.f633) (c:=cI) (by kernel_rfl) (by kernel_rfl) trivial ?_ rfl)
 obtain⟨tm0,ht0⟩:∃ x,(#[.func (.yield l) #[] #[]]++#[p,q,r])++Array.replicate (Tryz.f633.ntmps-(#[.func (.yield l) #[] #[]]++#[p,q,r]:Array Value).size) undef=x:=⟨_,rfl⟩
 have hnn:Tryz.f633.ntmps=34:=by kernel_rfl
 have z0:tm0.getD 0 undef=.func (.yield l) #[] #[]:=by rw[<-ht0];simp[Array.getD_eq_getD_getElem?]
 have z1:tm0.getD 1 undef=p:=by rw[<-ht0];simp[Array.getD_eq_getD_getElem?]
 have z2:tm0.getD 2 undef=q:=by rw[<-ht0];simp[Array.getD_eq_getD_getElem?]
 have z3:tm0.getD 3 undef=r:=by rw[<-ht0];simp[Array.getD_eq_getD_getElem?]
 have z4:tm0.size=34:=by rw[<-ht0,hnn];simp
 rw[ht0]
 clear ht0 hnn
 rw[zHx]
 refine wpIn_block (zbu (fun n av wv=>∃ i body g γ M,IInv γ1 M1 W1 (oI (b:Int) [] (a:Int) (b:Int) s (yc fn tm D .ready none)) s b (yc fn tm D .ready none) fin l i body g γ M av wv/\n=b-i) ?_ (b-a) ⟨a,b,[],γ1,M1,⟨hH,Chg.refl,fun _ _ _ h=>h,hfin,hab,by simp,by simp,?_,rfl,?_⟩,rfl⟩)
 .rintro n' a1 w1 ⟨i,body,g,γ,M,hI,hn⟩
  have hG:zbV GI Tryz.prog (zcx w1 M γ (oI body g (i:Int) (b:Int) s (yc fn tm D .ready none)) za7 34 none []):=⟨rfl,zpv,zvd,zai,zek⟩
  have hst:St (zcx w1 M γ (oI body g (i:Int) (b:Int) s (yc fn tm D .ready none)) za7 34 none []) (mkS (lI l) (oI body g (i:Int) (b:Int) s (yc fn tm D .ready none))) a1 w1:=⟨γ,M,hI.hold.lend hI.sl hI.df hI.nt⟩
  by_cases hi:i<b
  .refine zz3 hG zai (zEB hi hb hs) hst (fun a3 w3 _ hs3=>?_) (fun e a' w' hne ht _=>absurd (zcz ht) hne)
   obtain⟨hL,hn1,hn2,hn3⟩:=zk8 hi hb
   obtain⟨t,ht⟩:∃ t,(zdq s i b).1=t:=⟨_,rfl⟩
   obtain⟨nx,hnx⟩:∃ nx,(zdq s i b).2=nx:=⟨_,rfl⟩
   rw[ht,hnx]at hs3 hL
   rw[hnx]at hn1 hn2
   rw[ht,hnx]at hn3
   obtain⟨γ3,M3,hs3⟩:=hs3
   obtain⟨hH3,hC3,hK3,hsl3,hdf3,hnt3⟩:=za5.back hs3
   refine wpIn_seq (wpIn_seq (wpIn_region ?_))
   rw[zvJ]
   refine znP (C:=zcx w3 M3 γ3 (oI body g (i:Int) (b:Int) s (yc fn tm D .ready none)) za7 34 none []) (nt:=34) zai zpv (zHe l s t body i b nx g _) trivial ⟨γ3,M3,hH3.lend hsl3 hdf3 hnt3⟩ (fun a4 w4 hs4=>?_)
   obtain⟨γ4,M4,hs4⟩:=hs4
   obtain⟨hH4,hC4,hK4,hsl4,hdf4,hnt4⟩:=za5.back hs4
   have hKK4:zmG γ1 γ4:=(hI.kept.trans hK3).trans hK4
   have hCC4:=(hI.chg.trans hC3).trans hC4
   have hl4:=hKK4 1005 (by decide) _ hl
   obtain⟨ts,ty,pos,aft,ho⟩:=y_op
   have e0:=ARel.clo0 (fn:=.yield l) (hsl4 0)
   have e28:=ARel.clo0 (fn:=.yield l) (hsl4 28)
   have r1:ARel γ4 M4 (.ref 1001 0) (a4.tmps.getD 1 undef):=hsl4 1
   have r2:ARel γ4 M4 (.ref 1002 0) (a4.tmps.getD 2 undef):=hsl4 2
   have r3:ARel γ4 M4 (.ref 1003 0) (a4.tmps.getD 3 undef):=hsl4 3
   have r6:ARel γ4 M4 (.p (.int .i64 (nx:Int))) (a4.tmps.getD 6 undef):=hsl4 6
   have r29:ARel γ4 M4 (.p (.str t)) (a4.tmps.getD 29 undef):=hsl4 29
   have r30:ARel γ4 M4 (.p (.int .i64 (nx:Int))) (a4.tmps.getD 30 undef):=hsl4 30
   refine zye ho rfl (zgw (l:=l) (r:=yc fn tm D .ready none) e28 (hH4.raw_at zc6 hl4).1 rfl ?_)
   have hfold:(((yc fn tm D .ready none).params.zip ((#[.tmp 29,.tmp 30]:Array Operand).map a4.eval)).foldl (fun tmps (t,a)=>tmps.setIfInBounds t a) (yc fn tm D .ready none).tmps)=(tm.setIfInBounds 35 (a4.tmps.getD 29 undef)).setIfInBounds 36 (a4.tmps.getD 30 undef):=by
    simp[yc,Act.eval]
   rw[hfold]
   refine RoundIn.mono (zhc (fn:=fn) (D:=D) (tm:=tm) hH4 hl4 (h7.ref_kept fun g hg=>hKK4 7 (by decide) g hg) (h8.ref_kept fun g hg=>hKK4 8 (by decide) g hg) r29 r30 hsz (by have:=hI.gl;omega) (fun x hx=>by have:=hI.gx x hx;omega) (by omega)) ?_
   rintro e W' ⟨jump,γ5,M5,he,hj,hH5,hC5,hK5⟩
   refine⟨_,he,?_⟩
   obtain⟨hg5,hx5⟩:=zFI (nx:=(nx:Int)) (body:=body) (t:=t) hn1 hI.gl hI.gx hn3
   obtain⟨body5,hb5⟩:∃ x,(stp t (nx:Int) body g).2.1=x:=⟨_,rfl⟩
   obtain⟨g5,hg5'⟩:∃ x,(stp t (nx:Int) body g).2.2=x:=⟨_,rfl⟩
   have hres:=hI.res
   rw[hL]at hres
   rw[hg5']at hg5 hx5
   rw[hb5,hg5']at hH5 hC5
   have hput:∀ k,k≠31->(a4.put (some 31) (.bool jump.isNone)).tmps.getD k undef=a4.tmps.getD k undef:=by
    intro k hk
    show(a4.tmps.setIfInBounds 31 _).getD k undef=_
    rw[zoO (by omega),if_neg (fun h=>hk h.symm)]
   have hsl5:∀ t':Nat,ARel γ5 M5 (Am.look t' AV.any [(0,.clo (.yield l) [] []),(1,.ref 1001 0),(2,.ref 1002 0),(3,.ref 1003 0),(6,.p (.int .i64 (nx:Int))),(31,.p (.bool jump.isNone))]) ((a4.put (some 31) (.bool jump.isNone)).tmps.getD t' undef):=by
    refine yw ?_ (yw ?_ (yw ?_ (yw ?_ (yw ?_ (yw ?_ zkH)))))
    .rw [hput 0 (by decide),e0];exact zuZ
    .rw [hput 1 (by decide)];exact r1.ref_kept fun g hg=>hK5 1001 (by decide) g hg
    .rw [hput 2 (by decide)];exact r2.ref_kept fun g hg=>hK5 1002 (by decide) g hg
    .rw [hput 3 (by decide)];exact r3.ref_kept fun g hg=>hK5 1003 (by decide) g hg
    .rw [hput 6 (by decide)];exact r6.p_any hC5.le
    .show ARel γ5 M5 _ ((a4.tmps.setIfInBounds 31 _).getD 31 undef)
     rw[zoO (by omega),if_pos rfl];exact .p _ _ (.bool _)
   obtain⟨rec5,hrec5⟩:∃ x,yc fn tm D (if jump.isNone then .ready else .done) jump=x:=⟨_,rfl⟩
   rw[hrec5]at hH5 hC5
   refine znP (C:=zcx W' M5 γ5 (oI body5 g5 (i:Int) (b:Int) s rec5) za7 34 none []) (nt:=34) (l:=[4]) (l2:=[]) zai zpv (zEi l s body5 i b nx g5 jump.isNone rec5) trivial ⟨γ5,M5,hH5.lend hsl5 hdf4 (by show(a4.tmps.setIfInBounds 31 _).size=34;simp;exact hnt4)⟩ (fun a6 w6 hs6=>?_)
   obtain⟨γ6,M6,hs6⟩:=hs6
   obtain⟨hH6,hC6,hK6,hsl6,hdf6,hnt6⟩:=za5.back hs6
   have hG6:zbV GI Tryz.prog (zcx w6 M6 γ6 (oI body5 g5 (i:Int) (b:Int) s rec5) za7 34 none []):=⟨rfl,zpv,zvd,zai,zek⟩
   have hst6:St (zcx w6 M6 γ6 (oI body5 g5 (i:Int) (b:Int) s rec5) za7 34 none []) (mkS [(0,.clo (.yield l) [] []),(1,.ref 1001 0),(2,.ref 1002 0),(3,.ref 1003 0),(6,.p (.int .i64 (nx:Int))),(32,.p (.bool (!jump.isNone)))] (oI body5 g5 (i:Int) (b:Int) s rec5)) a6 w6:=⟨γ6,M6,hH6.lend hsl6 hdf6 hnt6⟩
   have hv:=zED l s body5 i b g5 nx (!jump.isNone) rec5
   cases jump with
   | none=>
    subst hrec5
    refine zz4 hG6 zai hv hst6 fun e a8 w8 ht8 hs8=>?_
    have:=zcz ht8
    subst this
    obtain⟨γ8,M8,hs8⟩:=hs8
    obtain⟨hH8,hC8,hK8,hsl8,hdf8,hnt8⟩:=za5.back hs8
    refine⟨b-nx,by omega,nx,body5,g5,γ8,M8,⟨hH8,((hCC4.trans hC5).trans hC6).trans hC8,((hKK4.trans hK5).trans hK6).trans hK8,?_,hn2,hg5,hx5,hsl8,hdf8,hnt8⟩,rfl⟩
    rw[zv5 hj,hb5,hg5']at hres;exact hres
   | some c=>
    obtain⟨hgs,hce⟩:=zv4 (i:=i) (r:=zas s nx b) hj
    rw[hgs,hb5,hg5']at hres
    refine zz4 hG6 zai hv hst6 fun e a8 w8 ht8 hs8=>?_
    have:=zvl ht8
    subst this
    obtain⟨γ8,M8,hs8⟩:=hs8
    obtain⟨hH8,hC8,hK8,hsl8,hdf8,hnt8⟩:=za5.back hs8
    obtain⟨v,hv'⟩:=zDf hs8
    subst hrec5
    subst hres
    exact⟨hdf8,v,hv',⟨v,rfl⟩,γ8,M8,(i:Int),.done,some c,hH8,((hCC4.trans hC5).trans hC6).trans hC8,((hKK4.trans hK5).trans hK6).trans hK8,.inr ⟨rfl,by rw[hce]⟩,Nat.le_trans hg5 hn2,fun x hx=>Nat.le_trans (hx5 x hx) hn2⟩
  .refine zz3 hG zai (zEC hi) hst (fun a3 w3 h _=>by cases h) (fun e a' w' hne ht hs'=>?_)
   have:=zkt (i:=0) ht
   subst this
   obtain⟨γ8,M8,hs8⟩:=hs'
   obtain⟨hH8,hC8,hK8,hsl8,hdf8,hnt8⟩:=za5.back hs8
   obtain⟨v,hv'⟩:=zDf hs8
   have hres:=hI.res
   rw[zlg (by omega)]at hres
   have hfin2:fin=(g,body):=hres.symm
   subst hfin2
   have key:bodyPost Tryz.prog Tryz.f633 (fun e W2=>(∃ v,e=.returned v)/\zDH γ1 M1 W1 (oI (b:Int) [] (a:Int) (b:Int) s (yc fn tm D .ready none)) s b fn tm D (g,body) W2) .normal a' w':=
    ⟨hdf8,v,hv',⟨v,rfl⟩,γ8,M8,(i:Int),.ready,none,hH8,hI.chg.trans hC8,hI.kept.trans hK8,.inl ⟨rfl,rfl⟩,Nat.le_trans hI.gl hI.ib,fun x hx=>Nat.le_trans (hI.gx x hx) hI.ib⟩
   exact⟨key,key⟩
 .exact yw (by rw[z0];exact zuZ) (yw (by rw[z1];exact hp) (yw (by rw[z2];exact hq) (yw (by rw[z3];exact hr) zkH)))
 .exact z4
theorem zDw{α:Type}{l:List α}{i:Nat}{c:α}{r:List α}(h:l.drop i=c::r)(d:α):l.getD i d=c/\l.drop (i+1)=r/\i<l.length:=by
 have hi:i<l.length:=by
  refine Nat.lt_of_not_le fun q=>?_
  rw[List.drop_of_length_le q]at h;cases h
 rw[List.drop_eq_getElem_cons hi]at h
 injection h with h1 h2
 refine⟨?_,h2,hi⟩
 rw[List.getD_eq_getElem?_getD,List.getElem?_eq_getElem hi];exact h1
theorem zyP{P:Program}{rs:List ResultVar}{e:Exit}{st:S}{x:AV}{o:List (Nat×AObj)}(h:kP P rs e st=some (x,o)):(e=.normal\/e=.ret)/\zbf P st rs=some x/\o=[]:=by
 cases e <;> first
  | cases h
  | (simp only [kP] at h
     split at h
     .rename_i y hy;cases h;exact⟨by simp,hy,rfl⟩
     .cases h)
theorem zoV(c:List UInt8)(r:List (List UInt8)):zaJ (c::r)=(if(zeg c).2=true then[(zeg c).1] else[])++zaJ r:=by
 unfold zaJ
 rw[List.filterMap_cons]
 split
 .rename_i h
  split at h
  .cases h
  .rename_i h2;rw[if_neg h2];rfl
 .rename_i x h
  split at h
  .rename_i h2;rw[if_pos h2];cases h;rfl
  .cases h
theorem zvC(F:Nat)(g:List (List UInt8))(body:Int)(hg:g.length<=1000000)(hx:∀ x ∈ g,x≠[]/\x.length<=1000000):∀ (r:List (List UInt8)) (f i:Nat) (acc:List (List UInt8×List UInt8)),g.drop i=r->r.length<f->i<=g.length->acc.length<=i->
 zh4 F f (g.length:Int) (i:Int) acc body g=some (.tup [.p (.list 2 (.dat (.pair .str .str) (acc++zaJ r))),.p (.int .i64 body)],[]):=by
 intro r
 induction r with
 | nil=>
  intro f i acc hd hf hi ha
  have:i=g.length:=by have:=congrArg List.length hd;simp at this;omega
  cases f with
  | zero=>omega
  | succ f=>
   rw[zmb]
   refine yM (by simp;omega) ?_
   rw[show zaJ []=[] from rfl,List.append_nil]
 | cons c r ih=>
  intro f i acc hd hf hi ha
  obtain⟨h1,h2,h3⟩:=zDw hd []
  have hc:=hx c (by rw[<-h1];exact ze7 h3 [])
  have hcl:=List.length_pos_iff.2 hc.1
  cases f with
  | zero=>omega
  | succ f=>
   have nxt:∀ acc',acc'.length<=i+1->zh3 F f (g.length:Int) (i:Int) acc' body g=some (.tup [.p (.list 2 (.dat (.pair .str .str) (acc'++zaJ r))),.p (.int .i64 body)],[]):=by
    intro acc' ha'
    rw[ztJ]
    refine zk (by unfold zQ;omega) ?_
    rw[show(i:Int)+1=((i+1:Nat):Int) by omega]
    exact ih f (i+1) acc' h2 (by simp at hf;omega) (by omega) ha'
   rw[zmb]
   rw[Int.toNat_natCast,h1]
   refine yL (by simp;omega) (zk ⟨by omega,by omega⟩ (zk h3 (zk (fun _=>⟨by omega,by omega⟩) (zk (fun _=>⟨by omega,by omega⟩) ?_))))
   rw[zll hc.1,ztK,zoV]
   cases hb:((i:Int)==0&&zcm c)with
   | true=>
    rw[Bool.and_eq_true]at hb
    rw[if_neg (by rw[zsq hb.2];simp),List.nil_append]
    exact yL rfl (nxt acc (by omega))
   | false=>
    refine yM rfl (zk hc.2 ?_)
    cases ho:(zeg c).2 with
    | true=>
     refine yL rfl (zk (by simp;omega) ?_)
     rw[if_pos rfl,<-List.append_assoc]
     exact nxt _ (by simp;omega)
    | false=>
     rw[if_neg (by simp),List.nil_append]
     exact yM rfl (nxt acc (by omega))
theorem zoP:∀ (L:List (Nat×List UInt8×Nat)) (body:Int) (g:List (List UInt8)),(∀ x ∈ g,x≠[])->∀ x ∈ (zaI L body g).1,x≠[]
 | [],body,g,h=>by rw[zaI];exact h
 | (i,t,nx)::r,body,g,h=>by
  rw[zaI]
  split
  .exact h
  .rename_i h0
   split
   .refine zoP r body _ fun x hx=>?_
    rcases List.mem_or_eq_of_mem_set hx with hx|hx
    .exact h x hx
    .rw [hx];intro q;exact h0 (List.append_eq_nil_iff.1 q).2
   .refine zoP r body _ fun x hx=>?_
    rcases List.mem_append.1 hx with hx|hx
    .exact h x hx
    .rw [List.mem_singleton.1 hx];exact h0
def gR(γ:Nat->Option G):Nat->Option G:=fun k=>match Nat.beq k 7||(Nat.beq k 8||Nat.beq k 81)with|true=>γ k|false=>none
theorem zEw{body:Int}{g:List (List UInt8)}{i:Nat}(h:ze i (oR body g)≠none):i=7\/i=8\/i=81:=by
 by_cases h7:i=7
 .exact .inl h7
 .by_cases h8:i=8
  .exact .inr (.inl h8)
  .by_cases h9:i=81
   .exact .inr (.inr h9)
   .exfalso;apply h
    have e7:Nat.beq i 7=false:=by cases hb:Nat.beq i 7 with|false=>rfl|true=>exact absurd (Nat.eq_of_beq_eq_true hb) h7
    have e8:Nat.beq i 8=false:=by cases hb:Nat.beq i 8 with|false=>rfl|true=>exact absurd (Nat.eq_of_beq_eq_true hb) h8
    have e9:Nat.beq i 81=false:=by cases hb:Nat.beq i 81 with|false=>rfl|true=>exact absurd (Nat.eq_of_beq_eq_true hb) h9
    simp only[oR,ze,e7,e8,e9]
theorem zB7{γ:Nat->Option G}{i:Nat}(h:¬ (i=7\/i=8\/i=81)):gR γ i=none:=by
 unfold gR
 have e7:Nat.beq i 7=false:=by cases hb:Nat.beq i 7 with|false=>rfl|true=>exact absurd (.inl (Nat.eq_of_beq_eq_true hb)) h
 have e8:Nat.beq i 8=false:=by cases hb:Nat.beq i 8 with|false=>rfl|true=>exact absurd (.inr (.inl (Nat.eq_of_beq_eq_true hb))) h
 have e9:Nat.beq i 81=false:=by cases hb:Nat.beq i 81 with|false=>rfl|true=>exact absurd (.inr (.inr (Nat.eq_of_beq_eq_true hb))) h
 rw[e7,e8,e9];rfl
section
variable {γ:Nat->Option G}{M:Mem}{w:World}{body i b:Int}{g:List (List UInt8)}{s:List UInt8}{rec:Loop}
theorem upR{k:Nat}(h:ze k (oR body g)≠none):ze k (oI body g i b s rec)≠none/\gR γ k=γ k:=by
 rcases zEw h with rfl|rfl|rfl
 .exact ⟨(by intro q;cases q),rfl⟩
 .exact ⟨(by intro q;cases q),rfl⟩
 .exact ⟨(by intro q;cases q),rfl⟩
theorem zxU(h:za5 γ M w (oI body g i b s rec)):za5 (gR γ) M w (oR body g):=by
 refine⟨fun id x hx=>?_,fun id hu=>?_,fun k k' x x' c h1 h2 h3 h4 h5 h6=>?_,fun k x c h1 h2 h3=>?_,⟨h.mem.toWOk,fun c ⟨k,x,h1,h2,h3⟩=>?_⟩⟩
 .rcases zEw (body:=body) (g:=g) (i:=id) (by rw[hx];simp)with rfl|rfl|rfl
  .cases hx
   obtain⟨c,vs,e,h1,h2,h3,h4,h5⟩:=h.ob 7 _ rfl
   refine⟨c,vs,e,h1,h2,h3,fun j hj=>?_,h5⟩
   have hj0:j=0:=by simp at hj;omega
   subst hj0
   exact⟨(h4 0 hj).1.p_any (MLe.refl M),(h4 0 hj).2⟩
  .cases hx
   obtain⟨c,vs,e,h1,h2,h3,h4,h5⟩:=h.ob 8 _ rfl
   refine⟨c,vs,e,h1,h2,h3,fun j hj=>?_,h5⟩
   have hj0:j=0:=by simp at hj;omega
   subst hj0
   refine⟨?_,(h4 0 hj).2⟩
   obtain⟨ad,k,n,cap,hg,he⟩:=(show ARel γ M (.arr 81) (vs.getD 0 undef) from(h4 0 hj).1).arr_inv
   show ARel (gR γ) M (.arr 81) (vs.getD 0 undef)
   rw[he];exact .arr _ _ _ _ _ hg
  .cases hx
   exact h.ob 81 _ rfl
 .refine zB7 fun q=>?_
  rcases q with rfl|rfl|rfl <;> cases hu
 .obtain ⟨a1,a2⟩:=upR (γ:=γ) (i:=i) (b:=b) (s:=s) (rec:=rec) h1
  obtain⟨b1,b2⟩:=upR (γ:=γ) (i:=i) (b:=b) (s:=s) (rec:=rec) h2
  exact h.sep k k' x x' c a1 b1 (a2 ▸ h3) (b2 ▸ h4) h5 h6
 .obtain ⟨a1,a2⟩:=upR (γ:=γ) (i:=i) (b:=b) (s:=s) (rec:=rec) h1
  exact h.lt k x c a1 (a2 ▸ h2) h3
 .obtain ⟨a1,a2⟩:=upR (γ:=γ) (i:=i) (b:=b) (s:=s) (rec:=rec) h1
  exact h.mem.hand c ⟨k,x,a1,a2 ▸ h2,h3⟩
end
theorem zBp{γ:Nat->Option G}{M:Mem}{w:World}{a:Act}{body i b:Int}{g:List (List UInt8)}{s:List UInt8}{rec:Loop}{D:Nat}{R:Ending->World->Prop}
 (hH:za5 γ M w (oI body g i b s rec)) (hD:γ 1004=some (.cell D)) (h6:ARel γ M (.p .nil) (a.tmps.getD 6 undef)) (h7:ARel γ M (.ref 7 0) (a.tmps.getD 7 undef)) (h8:ARel γ M (.ref 8 0) (a.tmps.getD 8 undef))
 (hdf:a.defers=[zb0 D]) (hnt:a.tmps.size=98) (hg:g.length<=1000000) (hx:∀ x ∈ g,x≠[]/\x.length<=1000000)
 (hR:∀ (v:Value) (M2:Mem) (w3:World),MOk M2 w3->MLe M M2->w.heap.size<=w3.heap.size->w3.os=w.os->w3.tape=w.tape->w3.output=w.output->
  (∀ c,c<w.heap.size->¬ Go.Am.Handed (gR γ) (oR body g) c->c≠D->w3.heap[c]?=w.heap[c]?/\M2 c=M c)->ARel γ0 M2 (.tup [.p (.list 2 (.dat (.pair .str .str) (zaJ g))),.p (.int .i64 body)]) v->R (.returned v) w3):
 (at_ cS [1,1,1,1,1]).wpIn (FW none) 0 Tryz.prog (bodyPostM (FW none) 0 Tryz.prog Tryz.f421 R) a w:=by
 have hHR:=zxU hH
 have hG:zbV GT Tryz.prog (zcx w M (gR γ) (oR body g) [] 98 none [zb0 D]):=⟨rfl,zFs,zCY,zai,zek⟩
 have hnD:¬ Go.Am.Handed (gR γ) (oR body g) D:=by
  rintro⟨id,x,h1,h2,h3⟩
  obtain⟨a1,a2⟩:=upR (γ:=γ) (i:=i) (b:=b) (s:=s) (rec:=rec) h1
  have:=hH.sep id 1004 x _ D a1 (by intro q;cases q) (a2 ▸ h2) hD h3 rfl
  rcases zEw h1 with e|e|e <;> omega
 obtain⟨hD0,hDlt⟩:=hH.raw_at (id:=1004) (x:=.deferred (some [])) rfl hD
 refine znW hG 1000002 [1,1,1,1,1] ((zBq 1000002 body g).trans (zvC 1000002 g body hg hx g 1000002 0 [] rfl (by omega) (by omega) (by simp)))
  ⟨gR γ,M,hHR.lend (yw (h6.p_any (MLe.refl M)) (yw (h7.ref_kept fun x h=>h) (yw (h8.ref_kept fun x h=>h) zkH))) hdf hnt⟩ fun e s' a' w' hk hs'=>?_
 obtain⟨he,hres,_⟩:=zyP hk
 obtain⟨γ2,M2,h2⟩:=hs'
 have hfr:∀ c,c<w.heap.size->¬ Go.Am.Handed (gR γ) (oR body g) c->w'.heap[c]?=w.heap[c]?/\M2 c=M c:=fun c h h'=>⟨h2.fr.block c h h',h2.new c h h'⟩
 have hDw:w'.heap[D]?=some (.deferred (some [])):=(hfr D hDlt hnD).1.trans hD0
 have hMD:∀ q,M2 D q=none:=fun q=>h2.mem.dfr hDw
 have h4:StG { w0:=w'.putObj D (.deferred none),M0:=M2,own:=fun c=>c≠D/\¬ znU c,nt:=98,g0:=γ0 } γ2 M2 s' { a' with defers:=[] } (w'.putObj D (.deferred none)):=by
  refine h2.reroot rfl rfl (fun id x c c1 c2 c3=>?_) (by simp) (h2.mem.put hMD) rfl rfl rfl (fun _ _ h=>by cases h) ⟨h2.fr.tabs.keep fun c _ hc=>World.putObj_heap_other fun e=>hH.mem.hand D ⟨1004,_,(by intro q;cases q),hD,rfl⟩ (e ▸ hc),fun c hc=>hc.2⟩
  have hne:c≠D:=by
   rintro rfl
   rcases(h2.lo id x _ c1 c2 c3).1 with q|q
   .exact absurd (show w.heap.size<=c from q) (by omega)
   .exact hnD q
  exact⟨⟨hne,h2.notab c1 c2 c3⟩,World.putObj_heap_other hne⟩
 obtain⟨v,hv,hr⟩:=zdg h4 Tryz.f421 hres
 have hsz:w.heap.size<=(w'.putObj D (.deferred none)).heap.size:=by have:w.heap.size<=w'.heap.size:=h2.fr.size;simpa using this
 have hlv:LeavesInM (FW none) 0 Tryz.prog Tryz.f421 a'.tmps R a'.defers .returning w':=by
  rw[show a'.defers=[zb0 D] from h2.df]
  refine⟨by simp,.inl ⟨D,_,rfl,run_takeDeferred hDw,v,hv,hR v M2 _ h4.mem h2.le hsz h2.fr.os h2.fr.tape h2.fr.output (fun c c1 c2 c3=>?_) hr⟩⟩
  exact⟨(World.putObj_heap_other c3).trans (hfr c c1 c2).1,(hfr c c1 c2).2⟩
 rcases he with rfl|rfl
 .exact hlv
 .exact hlv
theorem zz2{C:Ctx}{P:Program}{st:S}{a:Act}{w:World}{x:Ans}{Gc:Cfg}(hG:zbV Gc P C){c1 c2 c3 c4 c5 c6 c7:Code}{k:K}{Q:Exit->Act->World->Prop}
 (hv:yV Gc zaY [] c1 st (za8 Gc c2 (za8 Gc c3 (za8 Gc c4 (za8 Gc c5 k))))=some x) (hs:St C st a w)
 (hn:∀ st a w,k .normal st=some x->St C st a w->c6.wpIn (FW C.rd) 0 P (Exit.then (c7.wpIn (FW C.rd) 0 P Q) Q) a w)
 (he:∀ e st a w,e≠.normal->k e st=some x->St C st a w->Q e a w):
 (Code.seq c1 (.seq c2 (.seq c3 (.seq c4 (.seq (.seq c5 c6) c7))))).wpIn (FW C.rd) 0 P Q a w:=by
 refine wpIn_seq (yA hG hv hs fun e s1 a1 w1 hk1 hs1=>?_)
 cases e with
 | normal=>
  refine wpIn_seq (yA hG (s:=s1) hk1 hs1 fun e s2 a2 w2 hk2 hs2=>?_)
  cases e with
  | normal=>
   refine wpIn_seq (yA hG (s:=s2) hk2 hs2 fun e s3 a3 w3 hk3 hs3=>?_)
   cases e with
   | normal=>
    refine wpIn_seq (yA hG (s:=s3) hk3 hs3 fun e s4 a4 w4 hk4 hs4=>?_)
    cases e with
    | normal=>
     refine wpIn_seq (wpIn_seq (yA hG (s:=s4) hk4 hs4 fun e s5 a5 w5 hk5 hs5=>?_))
     cases e with
     | normal=>exact hn s5 a5 w5 hk5 hs5
     | exit i=>exact he (.exit i) s5 a5 w5 (by simp) hk5 hs5
     | ret=>exact he .ret s5 a5 w5 (by simp) hk5 hs5
     | goto i=>exact he (.goto i) s5 a5 w5 (by simp) hk5 hs5
     | panic i=>exact he (.panic i) s5 a5 w5 (by simp) hk5 hs5
     | outgrown=>exact he .outgrown s5 a5 w5 (by simp) hk5 hs5
    | exit i=>exact he (.exit i) s4 a4 w4 (by simp) hk4 hs4
    | ret=>exact he .ret s4 a4 w4 (by simp) hk4 hs4
    | goto i=>exact he (.goto i) s4 a4 w4 (by simp) hk4 hs4
    | panic i=>exact he (.panic i) s4 a4 w4 (by simp) hk4 hs4
    | outgrown=>exact he .outgrown s4 a4 w4 (by simp) hk4 hs4
   | exit i=>exact he (.exit i) s3 a3 w3 (by simp) hk3 hs3
   | ret=>exact he .ret s3 a3 w3 (by simp) hk3 hs3
   | goto i=>exact he (.goto i) s3 a3 w3 (by simp) hk3 hs3
   | panic i=>exact he (.panic i) s3 a3 w3 (by simp) hk3 hs3
   | outgrown=>exact he .outgrown s3 a3 w3 (by simp) hk3 hs3
  | exit i=>exact he (.exit i) s2 a2 w2 (by simp) hk2 hs2
  | ret=>exact he .ret s2 a2 w2 (by simp) hk2 hs2
  | goto i=>exact he (.goto i) s2 a2 w2 (by simp) hk2 hs2
  | panic i=>exact he (.panic i) s2 a2 w2 (by simp) hk2 hs2
  | outgrown=>exact he .outgrown s2 a2 w2 (by simp) hk2 hs2
 | exit i=>exact he (.exit i) s1 a1 w1 (by simp) hk1 hs1
 | ret=>exact he .ret s1 a1 w1 (by simp) hk1 hs1
 | goto i=>exact he (.goto i) s1 a1 w1 (by simp) hk1 hs1
 | panic i=>exact he (.panic i) s1 a1 w1 (by simp) hk1 hs1
 | outgrown=>exact he .outgrown s1 a1 w1 (by simp) hk1 hs1
theorem zHv:cS=.seq (at_ cS [0]) (.seq (at_ cS [1,0]) (.seq (at_ cS [1,1,0]) (.seq (at_ cS [1,1,1,0]) (.seq (.seq (at_ cS [1,1,1,1,0,0]) (.block 0 (.rangeFunc (.tmp 34) #[35,36] rfA rfB))) (at_ cS [1,1,1,1,1]))))):=by kernel_rfl
set_option maxHeartbeats 1000000 in
theorem zzi(s:List UInt8)(a b:Int)(hs:s.length<=1000000):FnP Tryz.prog 421 [.p (.str s),.p (.int .i64 a),.p (.int .i64 b)] (.tup [.p (.list 2 (.dat (.pair .str .str) (zac s a b).1)),.p (.int .i64 (zac s a b).2)]):=by
 intro M w vs hM hvs
 obtain⟨v0,v1,v2,rfl,r0,r1,r2⟩:∃ v0 v1 v2,vs=[v0,v1,v2]/\ARel γ0 M (.p (.str s)) v0/\ARel γ0 M (.p (.int .i64 a)) v1/\ARel γ0 M (.p (.int .i64 b)) v2:=by
  cases hvs with
  | cons h0 t=>cases t with
   | cons h1 t=>cases t with
    | cons h2 t=>cases t with
     | nil=>exact⟨_,_,_,rfl,h0,h1,h2⟩
 refine zbs (r:=none) (n:=0) |>.1 (callsIn_of_wp_marks (F:=FW none) (fn:=Tryz.f421) (c:=cS) (by kernel_rfl) (by kernel_rfl) trivial ?_ rfl)
 obtain⟨tm0,ht0⟩:∃ x,[v0,v1,v2].toArray++Array.replicate (Tryz.f421.ntmps-[v0,v1,v2].toArray.size) undef=x:=⟨_,rfl⟩
 have hnn:Tryz.f421.ntmps=98:=by kernel_rfl
 have z0:tm0.getD 0 undef=v0:=by rw[<-ht0];simp[Array.getD_eq_getD_getElem?]
 have z1:tm0.getD 1 undef=v1:=by rw[<-ht0];simp[Array.getD_eq_getD_getElem?]
 have z2:tm0.getD 2 undef=v2:=by rw[<-ht0];simp[Array.getD_eq_getD_getElem?]
 have z4:tm0.size=98:=by rw[<-ht0,hnn];simp
 rw[ht0]
 clear ht0 hnn
 rw[zHv]
 have hst:=zBa (nt:=98) (l:=[(0,.p (.str s)),(1,.p (.int .i64 a)),(2,.p (.int .i64 b))]) (tm:=tm0) hM (yw (by rw[z0];exact r0) (yw (by rw[z1];exact r1) (yw (by rw[z2];exact r2) zkH))) z4
 have hG:zbV GS0 Tryz.prog { w0:=w,M0:=M,own:=fun _=>False,nt:=98,g0:=γ0 }:=⟨rfl,zCZ,zAB,⟨rfl,fun _ _ h=>by cases h⟩,zek⟩
 by_cases hbad:a<0\/b>s.length\/a>b
 .have hv:=(zx4 s a b).trans (yL (by simp only[Bool.or_eq_true,decide_eq_true_eq];omega) rfl)
  have hsp:zac s a b=([],a):=by unfold zac;rw[if_pos hbad]
  rw[hsp]
  refine zz2 hG hv ⟨γ0,M,hst⟩ (fun st' a' w' hk _=>?_) (fun e st' a' w' hne hk hs'=>?_)
  .have:=(zck (C:={ w0:=w,M0:=M,own:=fun _=>False,nt:=98,g0:=γ0 }) (nt:=98) ⟨rfl,fun _ _ h=>by cases h⟩ hk).1
   cases this
  .cases e with
   | ret=>
    have hk2:kP Tryz.prog Tryz.f421.results.toList .ret st'=some (.tup [.p .nil,.p (.int .i64 a)],[]):=hk
    obtain⟨_,hres,_⟩:=zyP hk2
    obtain⟨γ1,M1,h1⟩:=hs'
    obtain⟨v,hv,hr⟩:=zdg h1 Tryz.f421 hres
    show LeavesInM (FW none) 0 Tryz.prog Tryz.f421 a'.tmps _ a'.defers .returning w'
    rw[show a'.defers=[] from h1.df]
    exact⟨v,hv,v,M1,rfl,h1.le,fun c hc=>h1.new c hc (fun h=>h),h1.mem,ARel.tup_head (fun _ h=>ARel.nil_list rfl h) hr,h1.fr.os,h1.fr.tape,h1.fr.output,h1.fr.size,fun c hc=>h1.fr.block c hc (fun h=>h)⟩
   | normal=>exact absurd rfl hne
   | exit i=>cases hk
   | goto i=>cases hk
   | panic i=>cases hk
   | outgrown=>cases hk
 .have hv:=(zx4 s a b).trans (yM (by simp only[Bool.or_eq_false_iff,decide_eq_false_iff_not];omega) rfl)
  obtain⟨na,rfl⟩:∃ n:Nat,a=n:=⟨a.toNat,by omega⟩
  obtain⟨nb,rfl⟩:∃ n:Nat,b=n:=⟨b.toNat,by omega⟩
  have hsp:zac s (na:Int) (nb:Int)=(zaJ (zaI (zas s na nb) (nb:Int) []).1,(zaI (zas s na nb) (nb:Int) []).2):=by unfold zac;rw[if_neg hbad,Int.toNat_natCast,Int.toNat_natCast]
  rw[hsp]
  obtain⟨fin,hfin⟩:∃ fin,zaI (zas s na nb) (nb:Int) []=fin:=⟨_,rfl⟩
  have hne:=zoP (zas s na nb) (nb:Int) [] (by simp)
  rw[hfin]at hne ⊢
  refine zz2 hG hv ⟨γ0,M,hst⟩ (fun st' a5 w5 hk hs'=>?_) (fun e st' a' w' hne hk hs'=>?_)
  .obtain ⟨_,hsub⟩:=zck (C:={ w0:=w,M0:=M,own:=fun _=>False,nt:=98,g0:=γ0 }) (nt:=98) ⟨rfl,fun _ _ h=>by cases h⟩ hk
   obtain⟨γ5,M5,h5⟩:=hsub _ _ hs'
   have hH5:=za5.of_st h5
   have r6:ARel γ5 M5 (.p .nil) (a5.tmps.getD 6 undef):=h5.sl 6
   have r7:ARel γ5 M5 (.ref 7 0) (a5.tmps.getD 7 undef):=h5.sl 7
   have r8:ARel γ5 M5 (.ref 8 0) (a5.tmps.getD 8 undef):=h5.sl 8
   obtain⟨p,q,r,hcl,rp,rq,rr⟩:=ARel.clo3 (fn:=.func 633) (x:=.ref 1001 0) (y:=.ref 1002 0) (z:=.ref 1003 0) (h5.sl 34)
   refine wpIn_block (zbH (gf:=633) (lb:=#[p,q,r]) hcl (by kernel_rfl) ?_)
   intro fn mkR hmk
   obtain⟨hHa,hCa⟩:=hH5.addraw (id:=1004) rfl (.deferred (some []))
   obtain⟨hHb,hCb⟩:=hHa.addraw (id:=1005) rfl (.loop (yc fn a5.tmps w5.heap.size .ready none))
   have esz:(w5.alloc (.deferred (some []))).heap.size=w5.heap.size+1:=by simp
   rw[esz]at hHb hCb
   obtain⟨γb,hγb⟩:∃ x,upd (upd γ5 1004 (some (.cell w5.heap.size))) 1005 (some (.cell (w5.heap.size+1)))=x:=⟨_,rfl⟩
   have hb5:γb 1005=some (.cell (w5.heap.size+1)):=by rw[<-hγb];exact zc _ _ _
   have hb4:γb 1004=some (.cell w5.heap.size):=by rw[<-hγb];exact(zh _ _ (by decide)).trans (zc _ _ _)
   have hup:∀ k,k≠1004->k≠1005->∀ x,γ5 k=some x->γb k=some x:=by
    intro k k1 k2 x hx
    rw[<-hγb];exact(zh _ _ k2).trans ((zh _ _ k1).trans hx)
   rw[hγb]at hHb hCb
   have hmkr:∀ st pe,mkR st pe=yc fn a5.tmps w5.heap.size st pe:=fun st pe=>by rw[hmk];rfl
   rw[hmkr .ready none]
   have hit:=zBU (s:=s) (a:=na) (b:=nb) (fn:=fn) (tm:=a5.tmps) (D:=w5.heap.size) (l:=w5.heap.size+1) (p:=p) (q:=q) (r:=r) hHb hb5 (r7.ref_kept (hup 7 (by decide) (by decide))) (r8.ref_kept (hup 8 (by decide) (by decide)))
    (rp.ref_kept (hup 1001 (by decide) (by decide))) (rq.ref_kept (hup 1002 (by decide) (by decide))) (rr.ref_kept (hup 1003 (by decide) (by decide))) h5.nt (by omega) (by omega) hs
   rw[hfin]at hit
   refine hit.mono ?_
   rintro e W2 ⟨hv2,γ',M',i,st,pe,hH,hC,hK,hcase,hgl,hgx⟩
   refine⟨hv2,?_⟩
   have hl2:=hK 1005 (by decide) _ hb5
   have hd2:=hK 1004 (by decide) _ hb4
   obtain⟨hHx,hCx⟩:=zss (yc fn a5.tmps w5.heap.size .exhausted pe) hH hl2
   have hCC:=((hCa.trans hCb).trans hC).trans hCx
   have hout:∀ c,c<w.heap.size->¬ Go.Am.Handed γ5 (oI (nb:Int) [] (na:Int) (nb:Int) s (yc fn a5.tmps w5.heap.size .ready none)).tail.tail c:=by
    rintro c hc ⟨id,x,c1,c2,c3⟩
    rcases(h5.lo id x c c1 c2 c3).1 with q|q
    .exact absurd (show w.heap.size<=c from q) (by omega)
    .exact q
   have hsz5:w.heap.size<=w5.heap.size:=h5.fr.size
   have hrest:∀ st0:LoopState,(at_ cS [1,1,1,1,1]).wpIn (FW none) 0 Tryz.prog (bodyPostM (FW none) 0 Tryz.prog Tryz.f421 fun e w'=>∃ v M',e=.returned v/\MLe M M'/\(∀ c,c<w.heap.size->M' c=M c)/\MOk M' w'/\
    ARel γ0 M' (.tup [.p (.list 2 (.dat (.pair .str .str) (zaJ fin.1))),.p (.int .i64 fin.2)]) v/\RowKit.Below w.heap.size w w') { a5 with defers:=zb0 w5.heap.size::a5.defers } (W2.putObj (w5.heap.size+1) (.loop (yc fn a5.tmps w5.heap.size .exhausted pe))):=by
    intro _
    refine zBp hHx hd2 (r6.p_any hCC.le) (r7.ref_kept fun x hx=>hK 7 (by decide) x (hup 7 (by decide) (by decide) x hx)) (r8.ref_kept fun x hx=>hK 8 (by decide) x (hup 8 (by decide) (by decide) x hx)) (by show _::a5.defers=_;rw[show a5.defers=[] from h5.df]) h5.nt (by omega) (fun x hx=>⟨hne x hx,by have:=hgx x hx;omega⟩) ?_
    intro v M2 w3 k1 k2 k3 k4 k5 k6 k7 k8
    have hcc:∀ c,c<w.heap.size->w3.heap[c]?=w.heap[c]?/\M2 c=M c:=by
     intro c hc
     have g1:=hCC.old c (by omega) (hout c hc)
     have g2:=k7 c (Nat.lt_of_lt_of_le (by omega) hCC.size) ?_ (by omega)
     .exact ⟨(g2.1.trans g1.1).trans (h5.fr.block c hc (fun h=>h)),(g2.2.trans g1.2).trans (h5.new c hc (fun h=>h))⟩
     .rintro ⟨id,x,c1,c2,c3⟩
      obtain⟨u1,u2⟩:=upR (γ:=γ') (i:=i) (b:=(nb:Int)) (s:=s) (rec:=yc fn a5.tmps w5.heap.size .exhausted pe) c1
      rcases hCC.new c ⟨id,x,u1,u2 ▸ c2,c3⟩ with q|q
      .omega
      .exact hout c hc q
    have hsz:w.heap.size<=w3.heap.size:=Nat.le_trans hsz5 (Nat.le_trans hCC.size k3)
    exact⟨v,M2,rfl,h5.le.trans (hCC.le.trans k2),fun c hc=>(hcc c hc).2,k1,k8,k4.trans (hCC.os.trans h5.fr.os),k5.trans (hCC.tape.trans h5.fr.tape),k6.trans (hCC.output.trans h5.fr.output),hsz,fun c hc=>(hcc c hc).1⟩
   simp only[hmkr]
   rcases hcase with⟨rfl,rfl⟩|⟨rfl,rfl⟩
   .exact .inl ⟨(hH.raw_at zc6 hl2).1,hrest .ready⟩
   .refine .inr ⟨.exit 0,(hH.raw_at zc6 hl2).1,wpIn_exit ?_⟩
    exact hrest .ready
  .cases e with
   | ret=>
    simp only[zEx,kP]at hk
    split at hk <;> cases hk
   | normal=>exact absurd rfl hne
   | exit i=>cases hk
   | goto i=>cases hk
   | panic i=>cases hk
   | outgrown=>cases hk
def zg6:List AV->Option (AV×Option Prop)
 | [.p (.str s),.p (.int .i64 a),.p (.int .i64 b)]=>some (.tup [.p (.list 2 (.dat (.pair .str .str) (zac s a b).1)),.p (.int .i64 (zac s a b).2)],some (s.length<=1000000))
 | _=>none
theorem zqh:zaG Tryz.prog 421 zg6:=by
 intro zs r ok he hok
 unfold zg6 at he
 split at he
 .cases he;exact⟨by kernel_rfl,zzi _ _ _ hok⟩
 .cases he
end Go.Proofs.YtfidlcpfbinncaaGreatDoor
