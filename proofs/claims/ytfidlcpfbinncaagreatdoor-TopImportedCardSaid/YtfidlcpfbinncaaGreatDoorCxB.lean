/-
  Functions of this program over texts that are not known, lifted; no condition of its own.
-/
import Derived.Test.YtfidlcpfbinncaaGreatDoorProg
import Derived.Test.YtfidlcpfbinncaaGreatDoorCxA
import Derived.Test.YtfidlcpfbinncaaGreatDoorAmD
set_option linter.unusedVariables false
noncomputable section
namespace Go.Proofs.YtfidlcpfbinncaaGreatDoor
open Go Go.Am
noncomputable def zrz:=mkG [] [] 32 [] [([0,1,0,1,1],⟨[0,3,10,11],[⟨.slot 3,3,(.barr 5 false [])⟩]⟩),([1,0,1,1,0,0,1,1,0,0,1,0,1,1],⟨[0,3,5,10,11,22],[⟨.slot 3,3,(.barr 5 false [])⟩]⟩),([1,1,1,0,0,1,1,0,0,1,0,1,1],⟨[0,3,5,10,11],[⟨.slot 3,3,(.barr 5 false [])⟩]⟩)] []
noncomputable def zh8(F f1:Nat)(s:List UInt8)(vi1 vi2:Int)(vb3:List UInt8):=zt5 zrz Tryz.f171 F [] [1,1,0,1,0] f1 [(0,pS s),(3,.arr 3),(10,pI vi1),(11,pI vi2)] [(3,.barr 5 true vb3)]
noncomputable def zvf(F f1:Nat)(s:List UInt8)(vi4 vi1 vi2:Int)(vc5:Bool)(vb3:List UInt8):=zi9 zrz Tryz.f171 F [f1] [1,1,0,1,0,0,1,1,0,0,1,1,0,1] [(0,pS s),(3,.arr 3),(5,.p (.int .u8 vi4)),(10,pI vi1),(11,pI vi2),(22,pB vc5)] [(3,.barr 5 true vb3)]
noncomputable def zpy(F f1:Nat)(s:List UInt8)(vi6 vi1 vi2:Int)(vb3:List UInt8):=zi9 zrz Tryz.f171 F [f1] [1,1,0,1,0,0,1,1,0,0,1,1,1] [(0,pS s),(3,.arr 3),(5,.p (.int .u8 vi6)),(10,pI vi1),(11,pI vi2)] [(3,.barr 5 true vb3)]
noncomputable def zAP(F:Nat)(s:List UInt8):=zgB zrz Tryz.f171 F [pS s]
theorem zmg(F f1 s vi1 vi2 vb3):letI A:=((s.getD vi2.toNat 0).toNat:Int);zh8 F (f1+1) s vi1 vi2 vb3=cond (decide (vi2<vi1)) (need (0<=vi2/\vi2<(s.length:Int)) (zvf F f1 s A vi1 vi2 ((decide (A>=65))&&(decide (A<=90))) vb3)) (some (.p (.str vb3),[])):=letI A:=(decide (((s.getD vi2.toNat 0).toNat:Int)>=65))=true;Eq.trans (by kernel_rfl) (yN (zM (nI A (nI A rfl))) rfl)
theorem ztO(F f1 s vi4 vi1 vi2 vc5 vb3):zvf F f1 s vi4 vi1 vi2 vc5 vb3=cond vc5 (zpy F f1 s (IntKind.u8.wrap (vi4+32)) vi1 vi2 vb3) (zpy F f1 s vi4 vi1 vi2 vb3):=by kernel_rfl
theorem zmf(F f1 s vi6 vi1 vi2 vb3):zpy F f1 s vi6 vi1 vi2 vb3=need ((vb3.length+[UInt8.ofNat vi6.toNat].length)*1<=140737488355328) (need (zQ (vi2+1)) (zh8 F f1 s vi1 (vi2+1) (vb3++[UInt8.ofNat vi6.toNat]))):=by kernel_rfl
theorem zAO(F s):letI A:=(s.length:Int);letI B:=(0:Int);zAP F s=need (0<=B/\B<=A/\(1:Int)*A<=281474976710656/\A<=9223372036854775807) (zh8 F F s A 0 (List.replicate B.toNat 0)):=by kernel_rfl
theorem zCg(F s r):IsP 171 (zAP F s) [.p (.str s)] r:=zi2 zrz rfl trivial
def zsz(b:UInt8):UInt8:=if 65<=b.toNat/\b.toNat<=90 then b+32 else b
def zjp(s:List UInt8):List UInt8:=s.map zsz
theorem zEp(b:UInt8)(h:65<=b.toNat/\b.toNat<=90):UInt8.ofNat (IntKind.u8.wrap ((b.toNat:Int)+(32:Int))).toNat=zsz b:=by
 have e:((b.toNat:Int)+32)=((b.toNat+32:Nat):Int):=by omega
 rw[e,zkp,zsz,if_pos h]
 apply UInt8.toNat_inj.1
 rw[UInt8.toNat_ofNat',UInt8.toNat_add];rfl
theorem zEr(b:UInt8)(h:¬ (65<=b.toNat/\b.toNat<=90)):UInt8.ofNat ((b.toNat:Int)).toNat=zsz b:=by
 rw[zsz,if_neg h,Int.toNat_natCast,UInt8.ofNat_toNat]
theorem zDO(b:UInt8):((decide ((b.toNat:Int)>=(65:Int)))&&(decide ((b.toNat:Int)<=(90:Int))))=decide (65<=b.toNat/\b.toNat<=90):=by
 rw[<-Bool.decide_and];exact decide_eq_decide.2 (by omega)
theorem ztN(F:Nat)(s:List UInt8)(hs:s.length<=140737488355328):∀ (r:List UInt8) (f i:Nat) (acc:List UInt8),s.drop i=r->acc.length=i->r.length<f->i<=s.length->
 zh8 F f s (s.length:Int) (i:Int) acc=some (.p (.str (acc++r.map zsz)),[]):=by
 intro r
 induction r with
 | nil=>
  intro f i acc hd ha hf hi
  have:i=s.length:=by have:=congrArg List.length hd;simp at this;omega
  cases f with
  | zero=>omega
  | succ f=>
   rw[zmg]
   refine zCB ?_
   simp
 | cons c r ih=>
  intro f i acc hd ha hf hi
  obtain⟨h1,h2,h3⟩:=ziR hd
  cases f with
  | zero=>omega
  | succ f=>
   rw[zmg]
   refine zCA ?_
   refine ziu ?_
   rw[Int.toNat_natCast,h1,ztO,zDO]
   have e:(i:Int)+1=((i+1:Nat):Int):=by omega
   have step:∀ d,zh8 F f s (s.length:Int) ((i:Int)+1) (acc++[d])=some (.p (.str (acc++d::r.map zsz)),[]):=fun d=>by
    rw[e,ih f (i+1) (acc++[d]) h2 (by simp[ha]) (by simp at hf;omega) (by omega)];simp
   by_cases hc:65<=c.toNat/\c.toNat<=90
   .refine yL (by simpa using hc) ?_
    rw[zmf]
    refine ziu ?_
    refine ziu ?_
    rw[zEp c hc,step];rfl
   .refine yM (by simpa using hc) ?_
    rw[zmf]
    refine ziu ?_
    refine ziu ?_
    rw[zEr c hc,step];rfl
theorem zC1(s:List UInt8)(hs:s.length<=140737488355328):zAP (s.length+1) s=some (.p (.str (zjp s)),[]):=by
 rw[zAO]
 refine ziu ?_
 exact ztN _ s hs s (s.length+1) 0 [] rfl rfl (by omega) (by omega)
def zoi:List AV->Option (AV×Option Prop)
 | [.p (.str s)]=>some (.p (.str (zjp s)),some (s.length<=140737488355328))
 | _=>none
theorem zBH:zaG Tryz.prog 171 zoi:=by
 intro zs r ok he hok
 unfold zoi at he
 split at he
 .cases he;exact⟨by kernel_rfl,zCg (_) _ _ fun hx=>zC1 _ hok⟩
 .cases he
def zb3:List (List UInt8×List UInt8)->List UInt8->List UInt8×Bool
 | [],_=>([],false)
 | x::r,n=>if zjp x.1=zjp n then(x.2,true) else zb3 r n
abbrev zhD(l:List (List UInt8×List UInt8))(n:List UInt8):Prop:=n.length<=140737488355328/\(∀ x ∈ l,x.1.length<=140737488355328)/\l.length<=1000000000000
noncomputable def ztD:=mkG [(171,zoi)] [] 23 [] [([0,1,0,1],⟨[1,8,9,10],[]⟩)] []
noncomputable def zh5(F f1:Nat)(n:List UInt8)(l:List (List UInt8×List UInt8))(vi1 vi2:Int):=zt5 ztD Tryz.f422 F [] [1,0,1,0] f1 [(1,pS n),(8,pL 2 (.pair .str .str) l),(9,pI vi1),(10,pI vi2)] []
noncomputable def ztE(F:Nat)(l:List (List UInt8×List UInt8))(n:List UInt8):=zgB ztD Tryz.f422 F [pL 2 (.pair .str .str) l,pS n]
theorem zjK(F f1 n l vi1 vi2):letI A:=l.getD vi2.toNat ([],[]);zh5 F (f1+1) n l vi1 vi2=cond (decide (vi2<vi1)) (need (0<=vi2/\vi2<(l.length:Int)) (need (A.1.length<=140737488355328) (need (n.length<=140737488355328) (cond ((zjp A.1)==(zjp n)) (some (.tup [.p (.str A.2),.p (.bool true)],[])) (need (zQ (vi2+1)) (zh5 F f1 n l vi1 (vi2+1))))))) (some (.tup [.p (.str ([]:List UInt8)),.p (.bool false)],[])):=by kernel_rfl
theorem zwS(F l n):ztE F l n=zh5 F F n l (l.length:Int) 0:=by kernel_rfl
theorem zzk(F l n r):IsP 422 (ztE F l n) [.p (.list 2 (.dat (.pair .str .str) l)),.p (.str n)] r:=zi2 ztD rfl ⟨zBH.any,trivial⟩
theorem zrE(F:Nat)(l:List (List UInt8×List UInt8))(n:List UInt8)(hk:zhD l n):∀ (r:List (List UInt8×List UInt8)) (f i:Nat),l.drop i=r->r.length<f->i<=l.length->
 zh5 F f n l (l.length:Int) (i:Int)=some (.tup [.p (.str (zb3 r n).1),.p (.bool (zb3 r n).2)],[]):=by
 intro r
 induction r with
 | nil=>
  intro f i hd hf hi
  have:i=l.length:=by have:=congrArg List.length hd;simp at this;omega
  cases f with
  | zero=>omega
  | succ f=>rw[zjK];exact yM (by simp;omega) rfl
 | cons c r ih=>
  intro f i hd hf hi
  obtain⟨h1,h2,h3⟩:=zDw hd ([],[])
  cases f with
  | zero=>omega
  | succ f=>
   rw[zjK,Int.toNat_natCast,h1]
   refine yL (by simp;omega) (zk ⟨by omega,by omega⟩ (zk (hk.2.1 c (by rw[<-h1];exact ze7 h3 _)) (zk hk.1 ?_)))
   rw[zb3]
   by_cases he:zjp c.1=zjp n
   .rw [if_pos he];exact yL (by rw[he];exact beq_self_eq_true _) rfl
   .rw [if_neg he]
    refine yM (by simpa using he) (zk (by have:=hk.2.2;unfold zQ;omega) ?_)
    rw[show(i:Int)+1=((i+1:Nat):Int) by omega]
    exact ih f (i+1) h2 (by simp at hf;omega) (by omega)
theorem zzo(l:List (List UInt8×List UInt8))(n:List UInt8)(hk:zhD l n):ztE (l.length+1) l n=some (.tup [.p (.str (zb3 l n).1),.p (.bool (zb3 l n).2)],[]):=by
 rw[zwS]
 exact zrE _ l n hk l (l.length+1) 0 rfl (by omega) (by omega)
def zkF:List AV->Option (AV×Option Prop)
 | [.p (.list 2 (.dat (.pair .str .str) l)),.p (.str n)]=>some (.tup [.p (.str ((zb3 l n).1)),.p (.bool ((zb3 l n).2))],some (zhD l n))
 | _=>none
theorem zyl:zaG Tryz.prog 422 zkF:=by
 intro zs r ok he hok
 unfold zkF at he
 split at he
 .cases he;exact⟨by kernel_rfl,zzk (_) _ _ _ fun hx=>zzo _ _ hok⟩
 .cases he
def zEu:Nat->Nat->List (Nat×List UInt8×Nat)->Prop
 | a,b,[]=>a<=b
 | a,b,(_,t,nx)::r=>a<nx/\nx<=b/\t.length<=nx-a/\zEu nx b r
theorem zni{s:List UInt8}{b:Nat}(hb:b<=s.length):∀ (n i:Nat),b-i=n->i<=b->zEu i b (zas s i b)/\(zas s i b).length<=b-i:=by
 intro n
 induction n using Nat.strongRecOn with
 | _ n ih=>
  intro i hn hi
  by_cases h:i<b
  .obtain ⟨h1,h2,h3,h4⟩:=zk8 h hb
   obtain⟨k1,k2⟩:=ih (b-(zdq s i b).2) (by omega) _ rfl h3
   rw[h1]
   exact⟨⟨h2,h3,h4,k1⟩,by simp;omega⟩
  .rw [zlg (by omega)];exact⟨hi,by simp⟩
theorem zlu:∀ (L:List (Nat×List UInt8×Nat)) (body:Int) (g:List (List UInt8)),(zaI L body g).1.length<=g.length+L.length
 | [],body,g=>by rw[zaI];simp
 | (i,t,nx)::r,body,g=>by
  rw[zaI]
  split
  .simp
  .split
   .have:=zlu r body (g.set (g.length-1) (g.getD (g.length-1) []++t));simp at this ⊢;omega
   .have:=zlu r body (g++[t]);simp at this ⊢;omega
theorem zrY(s:List UInt8)(a b:Int):(zac s a b).1.length<=s.length:=by
 unfold zac
 split
 .simp
 .rename_i h
  have h1:=(zni (s:=s) (b:=b.toNat) (by omega) (b.toNat-a.toNat) a.toNat rfl (by omega)).2
  have h2:=zlu (zas s a.toNat b.toNat) b []
  have h3:∀ l:List (List UInt8),(zaJ l).length<=l.length:=fun l=>by unfold zaJ;exact List.length_filterMap_le _ _
  have h4:=h3 (zaI (zas s a.toNat b.toNat) b []).1
  simp at h2
  show(zaJ _).length<=_
  omega
theorem zoQ:∀ (L:List (Nat×List UInt8×Nat)) (x y:Nat) (body:Int) (g:List (List UInt8)),zEu x y L->(∀ t ∈ g,t.length<=x)->∀ t ∈ (zaI L body g).1,t.length<=y
 | [],x,y,body,g,h,hg=>fun t ht=>Nat.le_trans (hg t ht) h
 | (i,t,nx)::r,x,y,body,g,h,hg=>by
  obtain⟨l1,l2,l3,l4⟩:=h
  rw[zaI]
  split
  .exact fun u hu=>by have:=hg u hu;omega
  .split
   .rename_i h2
    have hgl:=List.length_pos_iff.2 h2.1
    have h1:=hg _ (ze7 (show g.length-1<g.length by omega) [])
    refine zoQ r nx y body _ l4 fun u hu=>?_
    rcases List.mem_or_eq_of_mem_set hu with hu|hu
    .have:=hg u hu;omega
    .rw [hu,List.length_append];omega
   .refine zoQ r nx y body _ l4 fun u hu=>?_
    rcases List.mem_append.1 hu with hu|hu
    .have:=hg u hu;omega
    .rw [List.mem_singleton.1 hu];omega
theorem splitS_elem(s:List UInt8)(a b:Int):∀ x ∈ (zac s a b).1,x.1.length<=s.length/\x.2.length<=s.length:=by
 unfold zac
 split
 .intro x hx;cases hx
 .rename_i h
  have h1:=(zni (s:=s) (b:=b.toNat) (by omega) (b.toNat-a.toNat) a.toNat rfl (by omega)).1
  have h2:=zoQ _ _ _ b [] h1 (by simp)
  intro x hx
  unfold zaJ at hx
  obtain⟨t,ht,he⟩:=List.mem_filterMap.1 hx
  split at he
  .cases he
   have hl:=h2 t ht
   have hc:=zrb t 58
   have hb:=zkr (zaA t 58).2.1
   unfold zeg
   dsimp only
   omega
  .cases he
theorem firstS_len{l:List (List UInt8×List UInt8)}{n:List UInt8}{k:Nat}(h:∀ x ∈ l,x.2.length<=k):(zb3 l n).1.length<=k:=by
 induction l with
 | nil=>simp[zb3]
 | cons x r ih=>
  rw[zb3]
  split
  .exact h x (by simp)
  .exact ih fun y hy=>h y (List.mem_cons_of_mem _ hy)
theorem zpV{s:List UInt8}(hs:s.length<=1000000){n:List UInt8}(hn:n.length<=100):zhD (zac s 0 (s.length:Int)).1 n:=by
 have h1:=zrY s 0 (s.length:Int)
 exact⟨by omega,fun x hx=>by have:=(splitS_elem s 0 (s.length:Int) x hx).1;omega,by omega⟩
noncomputable def zvb:=mkG [(421,zg6)] [] 10 [] [] []
noncomputable def zpw(F:Nat)(s:List UInt8):=zgB zvb Tryz.f454 F [pS s]
theorem ztF(F s):letI A:=zac s 0 (s.length:Int);zpw F s=need (s.length<=1000000) (some (.tup [.p (.list 2 (.dat (.pair .str .str) A.1)),.p (.int .i64 A.2)],[])):=by kernel_rfl
theorem zv8(F s r):IsP 454 (zpw F s) [.p (.str s)] r:=zi2 zvb rfl ⟨zqh.any,trivial⟩
theorem zwb(s:List UInt8)(hs:s.length<=1000000):zpw 0 s=some (.tup [.p (.list 2 (.dat (.pair .str .str) (zac s 0 (s.length:Int)).1)),.p (.int .i64 (zac s 0 (s.length:Int)).2)],[]):=by
 rw[ztF];exact zk hs rfl
noncomputable def zDI:=mkG [(421,zg6),(422,zkF)] [] 23 [] [] []
noncomputable def zAE(F:Nat)(s n:List UInt8):=zgB zDI Tryz.f420 F [pS s,pS n]
theorem zAD(F s n):letI A:=zac s 0 (s.length:Int);zAE F s n=need (s.length<=1000000) (need (zhD A.1 n) (some (.p (.str (zb3 A.1 n).1),[]))):=by kernel_rfl
theorem zCb(F s n r):IsP 420 (zAE F s n) [.p (.str s),.p (.str n)] r:=zi2 zDI rfl ⟨zqh.any,zyl.any,trivial⟩
def thrS(s n:List UInt8):List UInt8:=(zb3 (zac s 0 (s.length:Int)).1 n).1
theorem zA0(s n:List UInt8)(hs:s.length<=1000000)(hn:n.length<=100):zAE 0 s n=some (.p (.str (thrS s n)),[]):=by
 rw[zAD];exact zk hs (zk (zpV hs hn) rfl)
end Go.Proofs.YtfidlcpfbinncaaGreatDoor
