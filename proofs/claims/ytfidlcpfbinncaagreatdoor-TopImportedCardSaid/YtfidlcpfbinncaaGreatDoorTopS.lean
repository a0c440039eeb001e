/-
  Runs of this program on known data, checked by the kernel; no condition of its own.
-/
import Derived.Test.YtfidlcpfbinncaaGreatDoorTopT
import Derived.Test.YtfidlcpfbinncaaGreatDoorBmE
set_option linter.unusedVariables false
noncomputable section
/-! Functions that look through a text, looked through. -/
open Go Go.Bm Go.Proofs
namespace Go.Bm
noncomputable section
set_option maxRecDepth 100000
def k65:List Nat:=[61,43,47,48,49,50,51,52,53,54,55,56,57,65,66,67,68,69,70,71,72,73,74,75,76,77,78,79,80,81,82,83,84,85,86,87,88,89,90,97,98,99,100,101,102,103,104,105,106,107,108,109,110,111,112,113,114,115,116,117,118,119,120,121,122]
def kPr:List Nat:=(List.range 95).map (32+·)
def zBT:List Nat:=List.range 32++(List.range 129).map (127+·)
theorem zvT:∀ k,k<64->(Go.Proofs.YtfidlcpfbinncaaGreatDoor.letter k).toNat ∈ k65:=by decide+kernel
theorem zoB(x n:Nat):∀ c ∈ Go.Proofs.YtfidlcpfbinncaaGreatDoor.lets x n,c.toNat ∈ k65:=by
 intro c hc
 unfold Go.Proofs.YtfidlcpfbinncaaGreatDoor.lets at hc
 obtain⟨i,_,rfl⟩:=List.mem_map.1 hc
 exact zvT _ (Nat.mod_lt _ (by decide))
theorem zs8:∀ (n:Nat) (s:List UInt8),s.length<=n->∀ c ∈ e64 s,c.toNat ∈ k65:=by
 intro n
 unfold e64
 induction n with
 | zero=>intro s h c hc;have:s=[]:=List.eq_nil_of_length_eq_zero (by omega);subst this;simp[Go.Proofs.YtfidlcpfbinncaaGreatDoor.encB]at hc
 | succ n ih=>
  intro s h c hc
  match s,h with
  | [],_=>simp[Go.Proofs.YtfidlcpfbinncaaGreatDoor.encB]at hc
  | [a],_=>
   rw[Go.Proofs.YtfidlcpfbinncaaGreatDoor.encB,List.mem_append]at hc
   rcases hc with hc|hc
   .exact zoB _ _ c hc
   .simp at hc;subst hc;decide
  | [a,b],_=>
   rw[Go.Proofs.YtfidlcpfbinncaaGreatDoor.encB,List.mem_append]at hc
   rcases hc with hc|hc
   .exact zoB _ _ c hc
   .simp at hc;subst hc;decide
  | a::b::d::r,h=>
   rw[Go.Proofs.YtfidlcpfbinncaaGreatDoor.encB,List.mem_append]at hc
   rcases hc with hc|hc
   .exact zoB _ _ c hc
   .exact ih r (by simp at h;omega) c hc
def bdX(a b:Nat):Nat->Option (Nat×Nat):=fun q=>match Nat.beq q 6 with|true=>some (1,2000)|false=>bdW a b q
theorem onX{x y:Nat->Option Ek}{a b:Nat}{t:List UInt8}{f:FuncId}{xs:List BV}{h h':Hp}{v:BV}(k:zg (SO x a b t) f xs h v h'):zg (SW y (bdX a b) (syO t)) f xs h v h':=
 zg.sharp (S:=SW y (bdX a b) (syO t)) (S':=SO x a b t) rfl (fun C hG=>⟨hG.gt,hG.sy,fun q u w hq=>by
  by_cases h6:q=6
  .subst h6
   cases hq
   obtain⟨z,k1,k2,k3⟩:=hG.bd 6 1 2000 rfl
   exact⟨z,k1,Nat.zero_le _,k3⟩
  .refine hG.bd q u w ?_
   show(match Nat.beq q 6 with|true=>some (1,2000)|false=>bdW a b q)=_
   rw[zdI h6];exact hq⟩) k
theorem zfR{a b:Nat}{t u:List UInt8}{ex:Nat->Option Ek}{A:La}(h0:A=⟨5,6,7,A.q,7,2000,2000,A.K,none,false,fun _=>[],A.sl,A.pat0,A.pat,A.back,A.e⟩)(hq:A.q<5)(hu:syF t A.q=some u)(hl:u.length<=2000)(hK:∀ x ∈ u,x.toNat ∈ A.K){I:In}(hI:BdI (SY ex a b t) I):zi1 (SO ex a b t) 10 A I:=by
 have iq:I A.q=u:=(hI.sy _ _ hu).2
 rw[h0]
 refine⟨rfl,rfl,rfl,rfl,rfl,rfl,by simp,by simp,by simp,by show A.q≠5;omega,by show A.q≠6;omega,by show A.q≠7;omega,by simp,by simp,zco,(hI.sy 5 [] rfl).2,(hI.sy 6 [] rfl).2,(hI.sy 7 [] rfl).2,by show(I A.q).length<=_;rw[iq];exact hl,fun h=>(by cases h),⟨fun _=>[],fun _ _=>rfl,?_,fun _=>⟨fun h=>absurd rfl h,by show ∀ x ∈ I A.q,_;rw[iq];exact hK⟩⟩,fun h=>(by cases h),fun X hX=>by cases hX⟩
 have:im (fun _=>[]) (I A.q)=[]:=by unfold im;simp
 show(im (fun _=>[]) (I A.q)).length<=_
 rw[this];exact Nat.zero_le _
theorem zyN{a b:Nat}{t:List UInt8}{ex:Nat->Option Ek}{A:La}(h0:A=⟨5,6,7,1,8,2000,2000,A.K,none,true,zCo,A.sl,A.pat0,A.pat,A.back,A.e⟩)(hl:t.length<=1000)(hne:t≠[])(hK:∀ x ∈ t,x.toNat ∈ A.K){I:In}(hI:BdI (SY ex a b t) I):zi1 (SO ex a b t) 10 A I:=by
 have iq:I 1=t:=(hI.sy _ _ rfl).2
 have iz:I 8=im zlH t:=(hI.sy 8 _ rfl).2
 have hm:=zep t
 rw[h0]
 exact⟨rfl,rfl,rfl,rfl,rfl,rfl,by simp,by simp,by simp,by simp,by simp,by simp,by simp,by simp,zco,(hI.sy 5 [] rfl).2,(hI.sy 6 [] rfl).2,(hI.sy 7 [] rfl).2,by show(I 1).length<=2000;rw[iq];omega,fun _=>by show I 1≠[];rw[iq];exact hne,⟨zlH,zEZ,by show(im zlH (I 1)).length<=2000;rw[iq];omega,fun _=>⟨fun _ _=>by show I 8=im zlH (I 1);rw[iz,iq],by show ∀ x ∈ I 1,_;rw[iq];exact hK⟩⟩,fun h=>(by cases h),fun X hX=>by cases hX⟩
theorem zyM{a b:Nat}{t:List UInt8}{ex:Nat->Option Ek}{A:La}{X:List Nat}(h0:A=⟨5,6,7,1,7,2000,2000,A.K,some X,false,fun _=>[],A.sl,A.pat0,A.pat,A.back,A.e⟩)(hl:t.length<=1000)(hsw:SOk (SW ex (bdX a b) (syO t)))(hX:∃ d x u,t=d++x::u/\(∀ x ∈ d,x.toNat ∈ A.K)/\x.toNat ∈ X){I:In}(hI:BdI (SY ex a b t) I):zi1 (SO ex a b t) 10 A I:=by
 have iq:I 1=t:=(hI.sy _ _ rfl).2
 rw[h0]
 refine⟨rfl,rfl,rfl,rfl,rfl,rfl,by simp,by simp,by simp,by simp,by simp,by simp,by simp,by simp,zco,(hI.sy 5 [] rfl).2,(hI.sy 6 [] rfl).2,(hI.sy 7 [] rfl).2,by show(I 1).length<=2000;rw[iq];omega,fun h=>(by cases h),⟨fun _=>[],fun _ _=>rfl,?_,fun h=>by cases h⟩,fun _=>hsw,fun Y hY=>by cases hY;show ∃ d x u,I 1=_/\_;rw[iq];exact hX⟩
 have:im (fun _=>[]) (I 1)=[]:=by unfold im;simp
 show(im (fun _=>[]) (I 1)).length<=_
 rw[this];exact Nat.zero_le _
theorem ziJ:∀ t:List UInt8,t.all prB=false->∃ d x u,t=d++x::u/\(∀ x ∈ d,x.toNat ∈ kPr)/\x.toNat ∈ zBT
 | [],h=>by cases h
 | x::t,h=>by
  cases hx:prB x with
  | false=>
   refine⟨[],x,t,rfl,by simp,?_⟩
   have h1:=x.toNat_lt
   have key:∀ n,n<256->and (Nat.ble 32 n) (Nat.ble n 126)=false->n ∈ zBT:=by decide+kernel
   exact key _ h1 hx
  | true=>
   rw[List.all_cons,hx,Bool.true_and]at h
   obtain⟨d,y,u,h1,h2,h3⟩:=ziJ t h
   refine⟨x::d,y,u,by rw[h1];rfl,fun z hz=>?_,h3⟩
   rcases List.mem_cons.1 hz with rfl|hz
   .have h1:=z.toNat_lt
    have key:∀ n,n<256->and (Nat.ble 32 n) (Nat.ble n 126)=true->n ∈ kPr:=by decide+kernel
    exact key _ h1 hx
   .exact h2 z hz
theorem zl3{t:List UInt8}(h:t.all prB=true):∀ x ∈ t,x.toNat ∈ kPr:=fun x hx=>by
 have h1:=x.toNat_lt
 have key:∀ n,n<256->and (Nat.ble 32 n) (Nat.ble n 126)=true->n ∈ kPr:=by decide+kernel
 exact key _ h1 (List.all_eq_true.1 h x hx)
end
end Go.Bm
