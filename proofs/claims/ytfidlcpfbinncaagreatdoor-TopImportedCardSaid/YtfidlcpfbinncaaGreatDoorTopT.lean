/-
  Runs of this program on known data, checked by the kernel; no condition of its own.
-/
import Derived.Test.YtfidlcpfbinncaaGreatDoorTopQ
import Derived.Test.YtfidlcpfbinncaaGreatDoorBmE
import Derived.Test.YtfidlcpfbinncaaGreatDoorCxA
import Derived.Test.YtfidlcpfbinncaaGreatDoorCxB
import Derived.Test.YtfidlcpfbinncaaGreatDoorTopTd
set_option linter.unusedVariables false
noncomputable section
/-! The texts that are not looked at. -/
open Go Go.Bm Go.Proofs
namespace Go.Bm
noncomputable section
set_option maxRecDepth 100000
open Go.Proofs.YtfidlcpfbinncaaGreatDoor (thrS zsA digK)
abbrev e64(t:List UInt8):List UInt8:=Go.Proofs.YtfidlcpfbinncaaGreatDoor.encB t
def bdW(a b:Nat):Nat->Option (Nat×Nat)
 | 1=>some (a,b)
 | 2=>some (0,1336)
 | 3=>some (2,1012)
 | 4=>some (1,4)
 | 5=>some (0,2000)
 | 6=>some (0,2000)
 | 7=>some (0,2000)
 | 8=>some (0,2000)
 | 9=>some (1,1000)
 | _=>none
def slT:List (Nat×BV)->Tr BV
 | []=>.e
 | x::l=>(slT l).set x.1 x.2
def zCo(b:Nat):List Ck:=match or (Nat.beq b 34) (Nat.beq b 92)with|true=>[.k 2 (92+256*b)]|false=>[.k 1 b]
def zlH(x:UInt8):List UInt8:=match or (Nat.beq x.toNat 34) (Nat.beq x.toNat 92)with|true=>[92,x]|false=>[x]
theorem zEZ(x:UInt8)(I:In):tx I (zCo x.toNat)=zlH x:=by
 unfold zCo zlH
 split
 .rename_i h
  rw[Bool.or_eq_true]at h
  have:x=34\/x=92:=h.imp (fun h=>UInt8.toNat_inj.1 (Nat.eq_of_beq_eq_true h)) (fun h=>UInt8.toNat_inj.1 (Nat.eq_of_beq_eq_true h))
  show dec 2 (92+256*x.toNat)++[]=_
  rcases this with rfl|rfl <;> decide+kernel
 .show dec 1 x.toNat++[]=_
  rw[zev];rfl
def prB(x:UInt8):Bool:=and (Nat.ble 32 x.toNat) (Nat.ble x.toNat 126)
def plT(t:List UInt8):Bool:=and (t.all prB) (Nat.ble t.length 200)
def zof(t:List UInt8):List UInt8:=match plT t with
 | true=>34::(im zlH t++[34])
 | false=>123::(dg t.length++(125::13::10::t))
def irt:List UInt8:=[105,110,45,114,101,112,108,121,45,116,111]
def zwK(t:List UInt8):List UInt8:=match thrS t irt with
 | []=>[0]
 | v=>v
def syF(t:List UInt8):Nat->Option (List UInt8)
 | 1=>some t
 | 2=>some (e64 t)
 | 3=>some (zof t)
 | 4=>some (dg t.length)
 | 5=>some []
 | 6=>some []
 | 7=>some []
 | 8=>some (im zlH t)
 | 9=>some (zwK t)
 | _=>none
def syO(t:List UInt8):Nat->Option (List UInt8):=fun q=>match zaN q [5,6,7]with|true=>none|false=>syF t q
def SY(x:Nat->Option Ek)(a b:Nat)(t:List UInt8):zd:=SW x (bdW a b) (syF t)
def SO(x:Nat->Option Ek)(a b:Nat)(t:List UInt8):zd:=SW x (bdW a b) (syO t)
theorem zzO{n:Nat}:1<=dgK n/\dgK n<=4:=by unfold dgK;(repeat' split) <;> omega
theorem zzN(n:Nat):(dg n).length=dgK n:=zi _ _
theorem zep:∀ t:List UInt8,(im zlH t).length<=2*t.length
 | []=>by simp[im]
 | x::t=>by
  have h:=zep t
  unfold im at h ⊢
  rw[List.flatMap_cons,List.length_append]
  have:(zlH x).length<=2:=by unfold zlH;split <;> simp
  simp only[List.length_cons];omega
theorem zxF{t:List UInt8}(h:t.length<=1000):2<=(zof t).length/\(zof t).length<=1012:=by
 unfold zof
 have h1:=zep t
 have h2:=zzO (n:=t.length)
 split
 .rename_i hp
  unfold plT at hp
  rw[Bool.and_eq_true]at hp
  have:=Nat.le_of_ble_eq_true hp.2
  simp;omega
 .simp [zzN];omega
theorem zAl{t:List UInt8}(h:t.length<=1000):1<=(zwK t).length/\(zwK t).length<=1000:=by
 have h1:(thrS t irt).length<=t.length:=Go.Proofs.YtfidlcpfbinncaaGreatDoor.firstS_len fun x hx=>(Go.Proofs.YtfidlcpfbinncaaGreatDoor.splitS_elem t 0 (t.length:Int) x hx).2
 unfold zwK
 split
 .simp
 .rename_i v hv
  cases hx:thrS t irt with
  | nil=>exact absurd hx hv
  | cons a l=>rw[hx]at h1;simp at h1 ⊢;omega
theorem zHE{a b:Nat}{t:List UInt8}(h1:a<=t.length)(h2:t.length<=b)(h:t.length<=1000):∀ q x y,bdW a b q=some (x,y)->∃ u,syF t q=some u/\x<=u.length/\u.length<=y:=by
 intro q x y hq
 have e1:=Go.Proofs.YtfidlcpfbinncaaGreatDoor.encB_len t.length t (Nat.le_refl _)
 have e2:=zep t
 have e3:=zxF h
 have e4:=zzO (n:=t.length)
 have e5:=zAl h
 unfold bdW at hq
 split at hq <;> cases hq
 .exact ⟨_,rfl,h1,h2⟩
 .exact ⟨_,rfl,Nat.zero_le _,by rw[e1];omega⟩
 .exact ⟨_,rfl,e3⟩
 .exact ⟨_,rfl,by rw[zzN];exact e4⟩
 .exact ⟨_,rfl,Nat.zero_le _,Nat.zero_le _⟩
 .exact ⟨_,rfl,Nat.zero_le _,Nat.zero_le _⟩
 .exact ⟨_,rfl,Nat.zero_le _,Nat.zero_le _⟩
 .exact ⟨_,rfl,Nat.zero_le _,by omega⟩
 .exact ⟨_,rfl,e5⟩
theorem zco{a b:Nat}:∀ q,(bdW a b q).isSome=true->q<10:=by
 intro q h
 unfold bdW at h
 split at h <;> first|omega|cases h
theorem zdn{a b:Nat}{t:List UInt8}:∀ q u,syF t q=some u->(bdW a b q).isSome=true:=by
 intro q u h
 unfold syF at h
 split at h <;> first|rfl|cases h
variable {x y:Nat->Option Ek}{a b:Nat}{t:List UInt8}{f:FuncId}{xs:List BV}{h h' h1:Hp}{v:BV}
theorem reX(k:zg (SO x a b t) f xs h v h'):zg (SO y a b t) f xs h v h':=zg.sharp (S:=SO y a b t) (S':=SO x a b t) rfl (fun _ hG=>⟨hG.gt,hG.sy,hG.bd⟩) k
theorem reY(k:zg (SY x a b t) f xs h v h'):zg (SY y a b t) f xs h v h':=zg.sharp (S:=SY y a b t) (S':=SY x a b t) rfl (fun _ hG=>⟨hG.gt,hG.sy,hG.bd⟩) k
theorem onY(k:zg (SO x a b t) f xs h v h'):zg (SY y a b t) f xs h v h':=zg.sharp (S:=SY y a b t) (S':=SO x a b t) rfl (fun _ hG=>⟨hG.gt,fun q u hq=>by
 have hq:(match zaN q [5,6,7]with|true=>none|false=>syF t q)=some u:=hq
 split at hq
 .cases hq
 .exact hG.sy q u hq,hG.bd⟩) k
theorem sharp(h1:a<=t.length)(h2:t.length<=b)(k:zg (SO x a b t) f xs h v h'):zg (SO y 0 1000 t) f xs h v h':=
 zg.sharp (S:=SO y 0 1000 t) (S':=SO x a b t) rfl (fun C hG=>⟨hG.gt,hG.sy,fun q u w hq=>by
  by_cases h1':q=1
  .subst h1'
   have e:=hG.sy 1 t rfl
   cases hq
   exact⟨t,e,h1,h2⟩
  .refine hG.bd q u w ?_
   show bdW 0 1000 q=some (u,w)
   have hq:bdW a b q=some (u,w):=hq
   unfold bdW at hq ⊢
   split at hq <;> first|exact hq|exact absurd rfl h1'⟩) k
theorem beside(hx:∀ z ∈ xs,Bm.plainS ((SY x a b t).offB [5,6,7]) z=true)(hv:Bm.plainS ((SY x a b t).offB [5,6,7]) v=true)(k:zg (SY x a b t) f xs ⟨10,.e⟩ v h1)(h:Hp):zg (SO y a b t) f xs h v h:=
 reX (x:=x) (zg.besideU (S:=SY x a b t) (L:=[5,6,7]) zco zdn (fun q hq=>by
  have:q=5\/q=6\/q=7:=by
   unfold zaN zaN zaN zaN at hq
   simp only[Bool.or_eq_true,Bool.or_false]at hq
   rcases hq with h|h|h
   .exact .inl (Nat.eq_of_beq_eq_true h)
   .exact .inr (.inl (Nat.eq_of_beq_eq_true h))
   .exact .inr (.inr (Nat.eq_of_beq_eq_true h))
  rcases this with rfl|rfl|rfl <;> exact⟨rfl,fun a b h=>by cases h;rfl⟩) hx hv k h)
end
end Go.Bm
/-! Digits of a length. -/
open Go Go.Bm Go.Proofs
namespace Go.Bm
noncomputable section
set_option maxRecDepth 100000
theorem zj4{ex:Nat->Option Ek}{a b:Nat}{t:List UInt8}(ht:t.length<=1000)(h:Hp):zg (SO ex a b t) 188 [.ia 0 [1] []] h (.rp [.q 4]) h:=by
 obtain⟨h',hr⟩:=zqA (zCv t.length (by omega))
 have k:=zka (S:=SB) zvr zan 1000 hr
 have k2:=zg.beside (S:=SO ex a b t) (xs:=[.i .i64 (.ofNat t.length)]) (by simp[plain]) rfl (zg.sharp (S:=(SO ex a b t).bare) (S':=SB) rfl (fun _ hG=>⟨hG.gt,hG.sy,hG.bd⟩) k) h
 exact zg.tell (.cons (zpJ (S:=SO ex a b t) (q:=1) (t:=t) rfl) .nil) (zpI (q:=4) (t:=dg t.length) rfl rfl) k2
theorem zCw{n:Nat}(h:n<=1000):Go.Proofs.YtfidlcpfbinncaaGreatDoor.digK 4 (n:Int)=dg n:=by
 have:=zgb zCu n (by omega)
 unfold dok at this
 split at this
 .exact eq_of_beq this
 .cases this
theorem zos{ex:Nat->Option Ek}{a b:Nat}{t:List UInt8}(ht:t.length<=1000)(h:Hp):zg (SO ex a b t) 26 [.ia 0 [1] []] h (.rp [.q 4]) h:=by
 have hd:Go.Proofs.YtfidlcpfbinncaaGreatDoor.okD 4 (t.length:Int):=by
  refine⟨by decide,by omega,by omega,.inr ⟨by decide,?_,?_,?_⟩⟩
  .show (0:Int)<=((t.length/10:Nat):Int);omega
  .show ((t.length/10:Nat):Int)<=1000000;omega
  .by_cases h1:t.length/10<10
   .left;show((t.length/10:Nat):Int)<10;omega
   .right
    refine⟨by decide,?_,?_,?_⟩
    .show (0:Int)<=((t.length/10/10:Nat):Int);omega
    .show ((t.length/10/10:Nat):Int)<=1000000;omega
    .by_cases h2:t.length/10/10<10
     .left;show((t.length/10/10:Nat):Int)<10;omega
     .right
      refine⟨by decide,?_,?_,.inl ?_⟩
      .show (0:Int)<=((t.length/10/10/10:Nat):Int);omega
      .show ((t.length/10/10/10:Nat):Int)<=1000000;omega
      .show ((t.length/10/10/10:Nat):Int)<10;omega
 obtain⟨hc,hk⟩:=Go.Proofs.YtfidlcpfbinncaaGreatDoor.ok_rdig 4 [.p (.int .i64 (t.length:Int))] _ _ rfl hd
 have hk:Am.FnP Tryz.prog 26 [.p (.int .i64 (t.length:Int))] (.p (.str (Go.Proofs.YtfidlcpfbinncaaGreatDoor.digK 4 (t.length:Int)))):=hk
 rw[zCw ht]at hk
 refine zg.tell (.cons (zpJ (S:=SO ex a b t) (q:=1) (t:=t) rfl) .nil) (zjT.refl _) (zg.of_FnP (S:=SO ex a b t) (by kernel_rfl) hk (fun γ vs hs hx=>?_) (fun γ M z hs hz=>zor (S:=SO ex a b t) (q:=4) rfl hs hz) h)
 obtain⟨v,r,rfl,h1,h2⟩:=hx.cons_inv
 rw[h2.nil_inv]
 cases h1
 exact .cons (.p _ _ (.int _ _ (show(-9223372036854775808:Int)<=t.length/\(t.length:Int)<=9223372036854775807 by omega))) .nil
end
end Go.Bm
/-! Calls by contracts on plain data. -/
open Go Go.Bm Go.Proofs
namespace Go.Bm
noncomputable section
set_option maxRecDepth 100000
namespace P
open Go.Proofs.YtfidlcpfbinncaaGreatDoor
theorem enc(t:List UInt8)(h:t.length<=1000):Am.FnP Tryz.prog 10 [.p (.str t)] (.p (.str (e64 t))):=zv9 1000001 t _ fun _=>zwU t (by omega)
theorem loose(t:List UInt8)(h:t.length<=1000):Am.FnP Tryz.prog 235 [.p (.str (e64 t))] (.p (.str t)):=by
 have hl:=encB_len t.length t (Nat.le_refl _)
 have k:=zzl 1000001 (e64 t) _ fun _=>zAx (e64 t) (by show(e64 t).length<=_;unfold e64;omega)
 have e:zsA (e64 t)=t:=znf t.length t (Nat.le_refl _)
 rw[e]at k;exact k
theorem fld(t:List UInt8)(h:t.length<=1000):Am.FnP Tryz.prog 454 [.p (.str t)] (.tup [.p (.list 2 (.dat (.pair .str .str) (zac t 0 (t.length:Int)).1)),.p (.int .i64 (zac t 0 (t.length:Int)).2)]):=zv8 0 t _ fun _=>zwb t (by omega)
theorem thr(t n:List UInt8)(h:t.length<=1000)(hn:n.length<=100):Am.FnP Tryz.prog 420 [.p (.str t),.p (.str n)] (.p (.str (thrS t n))):=zCb 0 t n _ fun _=>zA0 t n (by omega) hn
end P
variable {t:List UInt8}{ex:Nat->Option Ek}{a b:Nat}
theorem zov{S:zd}{q:Nat}{u:List UInt8}(hq:S.sy q=some u)(hl:u.length<=1000000){γ:Nat->Option G}{vs:List Value}(hs:Nam S γ)(hx:zm γ [.rp [.q q]] vs):Am.ARels Am.γ0 (fun _ _=>none) [.p (.str u)] vs:=by
 obtain⟨v,r,rfl,h1,h2⟩:=hx.cons_inv
 rw[h2.nil_inv]
 exact .cons (zAi hq (Nat.le_trans hl (by decide)) hs h1) .nil
theorem zE2(ht:t.length<=1000)(h:Hp):zg (SO ex a b t) 10 [.rp [.q 1]] h (.rp [.q 2]) h:=
 zg.of_FnP (S:=SO ex a b t) (by kernel_rfl) (P.enc t ht) (fun γ vs hs hx=>zov (q:=1) rfl (by omega) hs hx) (fun γ M z hs hz=>zor (S:=SO ex a b t) (q:=2) rfl hs hz) h
theorem zyz(ht:t.length<=1000)(h:Hp):zg (SO ex a b t) 235 [.rp [.q 2]] h (.rp [.q 1]) h:=
 zg.of_FnP (S:=SO ex a b t) (by kernel_rfl) (P.loose t ht) (fun γ vs hs hx=>zov (q:=2) rfl (by have:=Go.Proofs.YtfidlcpfbinncaaGreatDoor.encB_len t.length t (Nat.le_refl _);show(e64 t).length<=_;unfold e64;omega) hs hx) (fun γ M z hs hz=>zor (S:=SO ex a b t) (q:=1) rfl hs hz) h
theorem zES(ht:t.length<=1000)(h:Hp):zg (SO ex a b t) 454 [.rp [.q 1]] h (.t [.u,.u]) h:=
 zg.of_FnP (S:=SO ex a b t) (by kernel_rfl) (P.fld t ht) (fun γ vs hs hx=>zov (q:=1) rfl (by omega) hs hx) (fun γ M z hs hz=>by
  cases hz with|tup _ vs h1 h2=>
   have h1:vs.toList.length=2:=by rw[Array.length_toList];exact h1
   refine .t _ _ ?_
   generalize vs.toList=l at h1
   match l,h1 with
   | [x,y],_=>exact .cons (.u _) (.cons (.u _) .nil)) h
def irC:Nat:=Go.Bm.encB irt
theorem zEH:dec 11 irC=irt:=by kernel_rfl
theorem zxp{S:zd}(hq:S.sy 1=some t)(ht:t.length<=1000){γ:Nat->Option G}{vs:List Value}(hs:Nam S γ)(hx:zm γ [.rp [.q 1],.s 11 irC] vs):Am.ARels Am.γ0 (fun _ _=>none) [.p (.str t),.p (.str irt)] vs:=by
 obtain⟨v,r,rfl,h1,h2⟩:=hx.cons_inv
 obtain⟨v2,r2,rfl,h3,h4⟩:=h2.cons_inv
 rw[h4.nil_inv]
 refine .cons (zAi hq (Nat.le_trans ht (by decide)) hs h1) (.cons ?_ .nil)
 cases h3
 show Am.ARel _ _ _ (.string ⟨(dec 11 irC).toArray⟩)
 rw[zEH]
 exact .p _ _ (.str _ (by decide))
theorem zAZ(ht:t.length<=1000)(hv:Go.Proofs.YtfidlcpfbinncaaGreatDoor.thrS t irt=[])(h:Hp):zg (SO ex a b t) 420 [.rp [.q 1],.s 11 irC] h (.s 0 0) h:=
 zg.of_FnP (S:=SO ex a b t) (by kernel_rfl) (P.thr t irt ht (by decide)) (fun γ vs hs hx=>zxp rfl ht hs hx) (fun γ M z hs hz=>by
  rw[hv]at hz
  cases hz with|p _ _ hp=>
   cases hp
   exact .s 0 0 (by decide)) h
theorem zxm(ht:t.length<=1000)(hv:Go.Proofs.YtfidlcpfbinncaaGreatDoor.thrS t irt≠[])(h:Hp):zg (SO ex a b t) 420 [.rp [.q 1],.s 11 irC] h (.rp [.q 9]) h:=
 zg.of_FnP (S:=SO ex a b t) (by kernel_rfl) (P.thr t irt ht (by decide)) (fun γ vs hs hx=>zxp rfl ht hs hx) (fun γ M z hs hz=>zor (S:=SO ex a b t) (q:=9) (by
  show some (zwK t)=some (Go.Proofs.YtfidlcpfbinncaaGreatDoor.thrS t irt)
  unfold zwK
  split
  .rename_i h0;exact absurd h0 hv
  .rfl) hs hz) h
end
end Go.Bm
