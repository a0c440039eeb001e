/-
  A part of a machine that runs known data, and its soundness; no condition of its own.
-/
import Derived.Deep.AppendSrc
import Derived.Deep.Upon
import Derived.Lib.UnsafeStr
import Derived.WalkKit
import Derived.CallsIn
import Derived.OrdersIn
import Derived.RangeFuncRecord
import Derived.RangeFuncLeaves
import Derived.Test.YtfidlcpfbinncaaGreatDoorBmB
import Derived.Test.YtfidlcpfbinncaaGreatDoorBmA
set_option linter.unusedVariables false
noncomputable section
/-! Cells that are written. -/
namespace Go.Bm
open Go Go.RowKit
variable {S:zd}{γ γ':Nat->Option G}{C:Ctx}{h:Hp}{w w':World}{σ:Tr BV}{a:Act}{P:Program}
def zaH(cur:Array Value):Nat->List Value->Array Value
 | _,[]=>cur
 | o,v::r=>zaH (cur.setIfInBounds o v) (o+1) r
theorem zW:∀ (vs:List Value) (o:Nat) (cur:Array Value),(zaH cur o vs).size=cur.size
 | [],_,_=>rfl
 | v::r,o,cur=>by rw[zaH,zW r];simp
theorem zbo:∀ (vs:List Value) (o:Nat) (cur:Array Value) (j:Nat),(j<o\/o+vs.length<=j)->(zaH cur o vs)[j]?=cur[j]?
 | [],_,_,_,_=>rfl
 | v::r,o,cur,j,h=>by
  have hl:(v::r).length=r.length+1:=rfl
  rw[zaH,zbo r _ _ j (by omega)]
  exact Array.getElem?_setIfInBounds_ne (by omega)
theorem zcT:∀ (vs:List Value) (o:Nat) (cur:Array Value) (j:Nat),j<vs.length->o+j<cur.size->(zaH cur o vs)[o+j]?=vs[j]?
 | [],_,_,_,h,_=>by cases h
 | v::r,o,cur,j,h,hs=>by
  rw[zaH]
  cases j with
  | zero=>
   rw[zbo r _ _ _ (by omega)]
   simp[show o<cur.size by omega]
  | succ j=>
   rw[show o+(j+1)=o+1+j by omega,zcT r (o+1) _ j (by simpa using h) (by simp;omega)]
   rfl
theorem zon(w:World)(b o:Nat)(v:Value){cur:Array Value}{e:Nat}{m:Nat×Nat}(h:w.heap[b]?=some (.cells cur e m)):(w.setCell ⟨b,o,none⟩ v).heap[b]?=some (.cells (cur.setIfInBounds o v) e m):=by
 unfold World.setCell
 simp only[Array.getElem?_modify,if_true,h,Option.map_some]
 rfl
theorem zb9(b:Nat):∀ (vs:List Value) (o:Nat) (w:World) (cur:Array Value) (e:Nat) (m:Nat×Nat),w.heap[b]?=some (.cells cur e m)->(w.setCells b o vs).heap[b]?=some (.cells (zaH cur o vs) e m)
 | [],_,_,_,_,_,h=>h
 | v::r,o,w,cur,e,m,h=>by
  rw[World.setCells,zaH]
  exact zb9 b r (o+1) _ _ e m (zon w b o v h)
theorem zbI(b:Nat):∀ (vs:List Value) (o:Nat) (w:World) (i:Nat),i≠b->(w.setCells b o vs).heap[i]?=w.heap[i]?
 | [],_,_,_,_=>rfl
 | v::r,o,w,i,h=>by
  rw[World.setCells,zbI b r _ _ i h]
  unfold World.setCell
  simp only[Array.getElem?_modify,if_neg (Ne.symm h)]
theorem zaC(b:Nat):∀ (vs:List Value) (o:Nat) (w:World),(w.setCells b o vs).heap.size=w.heap.size
 | [],_,_=>rfl
 | v::r,o,w=>by
  rw[World.setCells,zaC b r]
  simp[World.setCell]
theorem zb8(b:Nat):∀ (vs:List Value) (o:Nat) (w:World),(w.setCells b o vs).tape=w.tape
 | [],_,_=>rfl
 | v::r,o,w=>by rw[World.setCells,zb8 b r];rfl
def KO(γ:Nat->Option G)(vs:Array Value)(m:Nat×Nat):Ob->Prop
 | .c _ n t=>m=(0,0)/\n<=vs.size/\∀ j,j<n->zf γ (t.get j) (vs.getD j undef)/\(vs.getD j undef).oneCell'=true
 | .bs _ fz n c=>n<=vs.size/\zmo fz m n vs.size/\∀ j,j<n->vs[j]?=some (zq c j)
 | _=>False
def obE:Ob->Nat
 | .c e _ _=>e
 | .bs e _ _ _=>e
 | _=>0
def obK(k:Nat):Ob->Prop
 | .bs _ _ _ _=>k=1
 | _=>True
theorem KO.om{id:Nat}{ob:Ob}{vs:Array Value}{m:Nat×Nat}{g:G}(hk:KO γ vs m ob)(hg:γ id=some g)(hh:w.heap[g.b]?=some (.cells vs (obE ob) m))(hs:vs.size=g.C*g.k)(h1:obK g.k ob):OM γ w id ob:=by
 cases ob <;> (try exact hk.elim)
 case c e n t=>obtain⟨rfl,h2,h3⟩:=hk;exact⟨g,vs,hg,hh,h2,hs,h3⟩
 case bs e fz n c=>obtain⟨h2,h3,h4⟩:=hk;have h1:g.k=1:=h1;exact⟨g,vs,m,hg,hh,h1,by rw[hs,h1,Nat.mul_one],h2,h3,h4⟩
theorem Rel.ko(r:Rel C γ h w){id:Nat}{ob:Ob}(ho:h.get id=ob)(hr:(∃ e n t,ob=.c e n t)\/∃ e fz n c,ob=.bs e fz n c){g:G}(hg:γ id=some g):
 ∃ vs m,KO γ vs m ob/\w.heap[g.b]?=some (.cells vs (obE ob) m)/\vs.size=g.C*g.k/\obK g.k ob:=by
 have:=r.ob id
 rw[ho]at this
 rcases hr with⟨e,n,t,rfl⟩|⟨e,fz,n,c,rfl⟩
 .obtain ⟨g',vs,h1,h2,h3,h4,h5⟩:=this
  rw[hg]at h1;cases h1
  exact⟨vs,_,⟨rfl,h3,h5⟩,h2,h4,trivial⟩
 .obtain ⟨g',vs,m,h1,h2,h3,h4,h5⟩:=this
  rw[hg]at h1;cases h1
  exact⟨vs,m,h5,h2,by rw[h4,h3,Nat.mul_one],h3⟩
theorem KO.fresh{vs:Array Value}{m:Nat×Nat}{ob:Ob}(h:KO γ vs m ob)(e:Nat):KO γ vs (0,0) (zhB e ob):=by
 cases ob <;> (try exact h.elim)
 case c e n t=>exact⟨rfl,h.2⟩
 case bs e fz n c=>exact⟨h.1,rfl,h.2.2⟩
theorem zwA{vs:Array Value}{j:Nat}(h:j<vs.size):vs[j]?=some (vs.getD j undef):=by
 rw[Array.getD_eq_getD_getElem?,Array.getElem?_eq_getElem h];rfl
theorem zuF{vs vs':Array Value}{j:Nat}(h:vs'[j]?=vs[j]?):vs'.getD j undef=vs.getD j undef:=by
 rw[Array.getD_eq_getD_getElem?,Array.getD_eq_getD_getElem?,h]
theorem zex{k n m:Nat}{r q s:Row}(hc:zfh r q=some s){os ns:List Value}(hr:yb γ k n r os)(hq:yb γ k m q ns):yb γ k (n+m) s (os++ns):=by
 obtain⟨r1,r2,r3⟩:=hr
 obtain⟨q1,q2,q3⟩:=hq
 have hl:(os++ns).length=(n+m)*k:=by rw[List.length_append,r1,q1,Nat.add_mul]
 have h1:∀ u ∈ os++ns,u.oneCell'=true:=fun u hu=>(List.mem_append.1 hu).elim (r2 u) (q2 u)
 have bytes:∀ {n m c d:Nat},c<256^n->(List.range n).map (zq c)++(List.range m).map (zq d)=(List.range (n+m)).map (zq (zey n c d)):=by
  intro n m c d hc
  apply List.ext_getElem?
  intro i
  rcases Nat.lt_or_ge i n with hi|hi
  .rw [List.getElem?_append_left (by simpa using hi)]
   simp[hi,show i<n+m by omega,zq,zcb _ _ _ _ hi]
  .rw [List.getElem?_append_right (by simpa using hi)]
   obtain⟨j,rfl⟩:∃ j,i=n+j:=⟨i-n,by omega⟩
   simp only[List.length_map,List.length_range,Nat.add_sub_cancel_left,List.getElem?_map]
   rcases Nat.lt_or_ge j m with hj|hj
   .rw [List.getElem?_range hj,List.getElem?_range (by omega)]
    simp[zq,zbe _ _ _ _ hc]
   .rw [List.getElem?_eq_none (by simpa using hj),List.getElem?_eq_none (by simp;omega)];rfl
 cases r with
 | bs a c=>
  obtain⟨rfl,hk,hlt,rfl⟩:=r3
  cases q with
  | bs b d=>
   obtain⟨rfl,hk',hlt',rfl⟩:=q3
   cases hc
   refine⟨hl,h1,rfl,?_,zlQ _ _ _ _ hlt hlt',bytes hlt⟩
   rcases hk with rfl|hk
   .rcases hk' with rfl|hk'
    .exact .inl rfl
    .exact .inr hk'
   .exact .inr hk
  | c l=>
   simp only[zfh]at hc
   split at hc
   .rename_i hb
    have:=Nat.eq_of_beq_eq_true hb
    cases hc
    subst this
    exact⟨hl,h1,by simpa using q3⟩
   .rename_i hb
    have hn0:a≠0:=Nat.ne_of_beq_eq_false hb
    have hk:k=1:=hk.resolve_left hn0
    subst hk
    split at hc
    .rename_i d hp;cases hc
     obtain⟨p1,p2⟩:=zbq hp q3
     have hlen:l.length=m:=by rw[<-q3.length,q1,Nat.mul_one]
     rw[hlen]at p1 p2
     refine⟨hl,h1,by show a+l.length=_;rw[hlen],.inr rfl,zlQ _ _ _ _ hlt p1,?_⟩
     rw[p2];exact bytes hlt
    .cases hc
 | c l=>
  cases q with
  | bs b d=>
   obtain⟨rfl,hk',hlt',rfl⟩:=q3
   simp only[zfh]at hc
   split at hc
   .rename_i hb
    have:=Nat.eq_of_beq_eq_true hb
    cases hc
    subst this
    exact⟨hl,h1,by simpa using r3⟩
   .rename_i hb
    have hn0:b≠0:=Nat.ne_of_beq_eq_false hb
    have hk:k=1:=hk'.resolve_left hn0
    subst hk
    split at hc
    .rename_i c hp;cases hc
     obtain⟨p1,p2⟩:=zbq hp r3
     have hlen:l.length=n:=by rw[<-r3.length,r1,Nat.mul_one]
     rw[hlen]at p1 p2
     refine⟨hl,h1,by show l.length+b=_;rw[hlen],.inr rfl,by rw[hlen];exact zlQ _ _ _ _ p1 hlt',?_⟩
     rw[p2,hlen];exact bytes p1
    .cases hc
  | c l'=>
   cases hc
   exact⟨hl,h1,zm.append r3 q3⟩
theorem zxT{k n:Nat}{q:Row}{ns:List Value}(hq:yb γ k n q ns){m d:Nat}(hc:zfh (.bs 0 0) q=some (.bs m d)):m=n/\(n=0\/k=1)/\d<256^n/\ns=(List.range n).map (zq d):=by
 have:=zex hc (yb.nil γ k) hq
 rw[Nat.zero_add,List.nil_append]at this
 exact this.2.2
theorem KO.put{vs:Array Value}{mk:Nat×Nat}{ob ob':Ob}(hk:KO γ vs mk ob){off k n:Nat}{q:Row}(hp:za9 off q ob=some ob'){ns:List Value}(hq:yb γ k n q ns)(h1:obK k ob):
 mk=(0,0)/\(∀ j,j<ns.length->off+j<vs.size)/\KO γ (zaH vs off ns) mk ob'/\obE ob'=obE ob/\(∀ x,obK x ob->obK x ob'):=by
 obtain⟨q1,q2,q3⟩:=hq
 cases ob <;> (try exact hk.elim)
 case c e m tr=>
  obtain⟨rfl,h2,h3⟩:=hk
  cases q with
  | bs a c=>
   obtain⟨rfl,_,_,rfl⟩:=q3
   cases a with
   | zero=>cases hp;exact⟨rfl,by simp,⟨rfl,h2,h3⟩,rfl,fun _ h=>h⟩
   | succ a=>cases hp
  | c l=>
   simp only[za9]at hp
   split at hp
   .rename_i hb
    rw[Bool.and_eq_true]at hb
    have hle:off+l.length<=m:=Nat.le_of_ble_eq_true hb.2
    cases hp
    have hlen:ns.length=l.length:=q3.length
    refine⟨rfl,fun j hj=>by omega,⟨rfl,by rw[zW];exact h2,fun j hj=>?_⟩,rfl,fun _ h=>h⟩
    by_cases hin:off<=j/\j<off+l.length
    .obtain ⟨i,rfl⟩:∃ i,j=off+i:=⟨j-off,by omega⟩
     have hi:i<l.length:=by omega
     have e1:=zcT ns off vs i (by omega) (by omega)
     have e2:=Tr.sets_get? l tr off i hi
     obtain⟨v,h4,h5⟩:=q3.get? e2.symm
     have e3:(zaH vs off ns).getD (off+i) undef=v:=by rw[Array.getD_eq_getD_getElem?,e1,h4];rfl
     rw[e3]
     exact⟨h5,q2 v (List.mem_of_getElem? h4)⟩
    .have e1:=zbo ns off vs j (by omega)
     rw[zuF e1,Tr.sets_get_ne l tr off j (by omega)]
     exact h3 j hj
   .cases hp
 case bs e fz m c=>
  obtain⟨h2,h3,h4⟩:=hk
  have h1:k=1:=h1
  subst h1
  cases fz with
  | succ fz=>cases hp
  | zero=>
   have hmk:mk=(0,0):=h3
   subst hmk
   have main:∀ d,d<256^n->ns=(List.range n).map (zq d)->off+n<=m->∀ c',c'=zey off (low c off) (zey n d (shr c (off+n)))->
    (∀ j,j<ns.length->off+j<vs.size)/\KO γ (zaH vs off ns) (0,0) (.bs e 0 m c'):=by
    intro d hd hns hle c' hc'
    have hnl:ns.length=n:=by rw[hns];simp
    refine⟨fun j hj=>by omega,by rw[zW];exact h2,rfl,fun j hj=>?_⟩
    subst hc'
    rcases Nat.lt_or_ge j off with hj1|hj1
    .rw [zbo _ _ _ _ (.inl hj1),h4 j hj,zq,zq,zcb _ _ _ _ hj1,zdd _ _ _ hj1]
    .obtain ⟨i,rfl⟩:∃ i,j=off+i:=⟨j-off,by omega⟩
     rcases Nat.lt_or_ge i n with hi|hi
     .rw [zcT _ _ _ _ (by omega) (by omega),zq,zbe _ _ _ _ (zel _ _),zcb _ _ _ _ hi,hns]
      simp[hi,zq]
     .obtain ⟨i',rfl⟩:∃ i',i=n+i':=⟨i-n,by omega⟩
      rw[zbo _ _ _ _ (.inr (by omega)),h4 _ hj,zq,zq,zbe _ _ _ _ (zel _ _),zbe _ _ _ _ hd,zlS]
      congr 4;omega
   simp only[za9]at hp
   split at hp
   .rename_i m' d hcr
    obtain⟨rfl,_,hd,hns⟩:=zxT ⟨q1,q2,q3⟩ hcr
    split at hp
    .rename_i hb;cases hp
     obtain⟨a1,a2⟩:=main d hd hns (Nat.le_of_ble_eq_true hb) _ rfl
     exact⟨rfl,a1,a2,rfl,fun _ h=>h⟩
    .cases hp
   .rename_i l hcr
    have hr:=zex hcr (yb.nil γ 1) ⟨q1,q2,q3⟩
    rw[Nat.zero_add,List.nil_append]at hr
    split at hp
    .rename_i d hpk
     obtain⟨p1,p2⟩:=zbq hpk hr.2.2
     have hlen:l.length=n:=by
      have h5:=zm.length hr.2.2
      have h6:=hr.1
      omega
     rw[hlen]at p1 p2
     split at hp
     .rename_i hb;cases hp
      rw[hlen]
      have hb:off+l.length<=m:=Nat.le_of_ble_eq_true hb
      obtain⟨a1,a2⟩:=main d p1 p2 (by omega) _ rfl
      exact⟨rfl,a1,a2,rfl,fun _ h=>h⟩
     .cases hp
    .cases hp
   .cases hp
theorem KO.grow{vs vs':Array Value}{mk mk':Nat×Nat}{ob ob':Ob}(hk:KO γ vs mk ob)(hγ:GLe γ γ'){e k len n:Nat}{q:Row}(hp:zdG S e k len q ob=some ob'){ns:List Value}(hq:yb γ k n q ns)
 (hlo:∀ j,j<len*k->vs'[j]?=vs[j]?) (hin:∀ j,j<ns.length->vs'[len*k+j]?=ns[j]?) (hsz:len*k+ns.length<=vs'.size) (hm:(mk'=mk/\vs'.size=vs.size)\/mk'=(0,0)):
 KO γ' vs' mk' ob'/\obE ob'=e/\obE ob=e/\len*k<=vs.size/\(obK k ob')/\∀ q,len*k<=q->q<vs.size->¬ (mk.1<=q/\q<mk.2):=by
 obtain⟨q1,q2,q3⟩:=hq
 cases ob <;> (try exact hk.elim)
 case c e' m tr=>
  obtain⟨rfl,h2,h3⟩:=hk
  simp only[zdG]at hp
  split at hp
  .rename_i l hb h8
   rw[Bool.and_eq_true]at hb
   have he:=Nat.eq_of_beq_eq_true hb.1
   subst he
   have hle:len*k<=m:=Nat.le_of_ble_eq_true hb.2
   split at hp
   .cases hp
    have hlen:ns.length=l.length:=zm.length q3
    refine⟨⟨by rcases hm with⟨h,_⟩|h <;> exact h,by show len*k+l.length<=_;omega,fun j hj=>?_⟩,rfl,rfl,by omega,trivial,fun q _ _=>by dsimp only;omega⟩
    have hj:j<len*k+l.length:=hj
    rcases Nat.lt_or_ge j (len*k)with hj1|hj1
    .show zf γ' ((tr.sets (len*k) l).get j) _/\_
     rw[zuF (hlo j hj1),Tr.sets_get_ne l tr (len*k) j (by omega)]
     exact⟨(h3 j (by omega)).1.mono hγ,(h3 j (by omega)).2⟩
    .obtain ⟨i,rfl⟩:∃ i,j=len*k+i:=⟨j-len*k,by omega⟩
     have hi:i<l.length:=by omega
     have e2:=Tr.sets_get? l tr (len*k) i hi
     obtain⟨v,h4,h5⟩:=zm.get? q3 e2.symm
     have e3:vs'.getD (len*k+i) undef=v:=by rw[Array.getD_eq_getD_getElem?,hin i (by omega),h4];rfl
     rw[e3]
     exact⟨h5.mono hγ,q2 v (List.mem_of_getElem? h4)⟩
   .cases hp
  .cases hp
 case bs e' fz m c=>
  obtain⟨h2,h3,h4⟩:=hk
  simp only[zdG]at hp
  split at hp
  .rename_i m' c' hb hcr
   rw[Bool.and_eq_true,Bool.and_eq_true]at hb
   have he:=Nat.eq_of_beq_eq_true hb.1
   have hk1:=Nat.eq_of_beq_eq_true hb.2.1
   subst he hk1
   have hle:len<=m:=Nat.le_of_ble_eq_true hb.2.2
   have hold:yb γ 1 len (.bs len (low c len)) ((List.range len).map (zq (low c len))):=⟨by simp,zaE _ _,rfl,.inr rfl,zel _ _,rfl⟩
   obtain⟨c1,c2,rfl,c3,c4,c5⟩:=zex hcr hold ⟨q1,q2,q3⟩
   have hnl:ns.length=n:=by rw[q1,Nat.mul_one]
   rw[Nat.mul_one]at hlo hin hsz
   have hcells:∀ j,j<len+n->vs'[j]?=some (zq c' j):=fun j hj=>by
    have h5:((List.range len).map (zq (low c len))++ns)[j]?=some (zq c' j):=by rw[c5];simp[hj]
    rcases Nat.lt_or_ge j len with hj1|hj1
    .rw [List.getElem?_append_left (by simpa using hj1)]at h5
     simp[hj1]at h5
     rw[hlo j hj1,h4 j (by omega),<-h5,zq,zq,zdd _ _ _ hj1]
    .obtain ⟨i,rfl⟩:∃ i,j=len+i:=⟨j-len,by omega⟩
     rw[List.getElem?_append_right (by simp)]at h5
     simp at h5
     rw[hin i (by omega),h5]
   have base:∀ (hz:zmo fz mk' (len+n) vs'.size) (hfr:∀ q,len<=q->q<vs.size->¬ (mk.1<=q/\q<mk.2)),KO γ' vs' mk' (.bs e fz (len+n) c')/\obE (.bs e fz (len+n) c')=e/\obE (.bs e fz m c)=e/\len*1<=vs.size/\obK 1 (.bs e fz (len+n) c')/\∀ q,len*1<=q->q<vs.size->¬ (mk.1<=q/\q<mk.2):=by
    intro hz hfr
    exact⟨⟨by omega,hz,hcells⟩,rfl,rfl,by omega,rfl,by rw[Nat.mul_one];exact hfr⟩
   split at hp
   .cases hp
   .rename_i hcond
    cases hp
    match fz,h3,hcond with
    | 0,h3,_=>
     have h3:mk=(0,0):=h3
     subst h3
     exact base (by rcases hm with⟨h,_⟩|h <;> exact h) (fun q _ _=>by dsimp only;omega)
    | 1,h3,hcond=>
     have h3:mk.1=0/\mk.2<=m:=h3
     have hnm:len=m:=by
      cases hq:Nat.beq len m with
      | true=>exact Nat.eq_of_beq_eq_true hq
      | false=>exact absurd hq (fun hq=>hcond rfl hq)
     refine base ?_ (fun q h5 _=>by omega)
     rcases hm with⟨rfl,_⟩|rfl
     .exact ⟨h3.1,by omega⟩
     .exact ⟨rfl,Nat.zero_le _⟩
    | 2,h3,hcond=>
     have h3:∀ q,q<vs.size->¬ (mk.1<=q/\q<mk.2):=h3
     refine base ?_ (fun q _ h5=>h3 q h5)
     rcases hm with⟨rfl,he⟩|rfl
     .intro q hq;exact h3 q (by omega)
     .intro q hq;dsimp only;omega
    | fz+3,h3,_=>exact h3.elim
  .cases hp
end Go.Bm
/-! append. -/
namespace Go.Bm
open Go Go.RowKit
variable {S:zd}{γ γ':Nat->Option G}{C:Ctx}{h h':Hp}{w w':World}{σ:Tr BV}{a:Act}{P:Program}
def Did(C:Ctx)(γ:Nat->Option G)(h:Hp)(v:BV)(h':Hp)(z:Value)(w':World):Prop:=∃ γ',Ext h.nx γ γ'/\h.nx<=h'.nx/\zf γ' v z/\Rel C γ' h' w'
theorem Rel.born(r:Rel C γ h w){g:G}{o:Ob}{v:BV}{z:Value}(hf:zdl w w' g)(hb:zf (upd γ h.nx (some g)) v z)(ho:OM (upd γ h.nx (some g)) w' h.nx o):Did C γ h v (h.new o) z w':=
 ⟨_,Ext.upd (Nat.le_refl _),by rw[Hp.new_nx];omega,hb,r.birth hf.os hf.tape hf.output hf.lo hf.hi hf.old ho⟩
structure El(S:zd)(e k bb:Nat)(i:TypeInfo):Prop where
 info:S.P.info? e=some i
 size:i.size=k
 bytes:i.bytes=bb
theorem zuR(hT:TyOk S){e k bb:Nat}(hk:sz S e=some k)(hb:bts S e=some bb):∃ i,El S e k bb i:=by
 unfold sz at hk
 unfold bts at hb
 split at hk
 .rename_i i hi
  rw[hi]at hb
  exact⟨i,hT.ty _ _ hi,Option.some.inj hk,Option.some.inj hb⟩
 .cases hk
theorem zeX(hT:TyOk S){e k bb:Nat}{i:TypeInfo}(hi:El S e k bb i)(h:okZ S e k=true):∃ z,i.zero=some z/\z.cells.size=k/\zaL S e=some (cvl z.cells.toList):=by
 unfold okZ at h
 split at h
 .rename_i l hl
  obtain⟨z,_,rfl,j,hj,hz⟩:=ye hT hl
  rw[hi.info]at hj;cases hj
  have:=Nat.eq_of_beq_eq_true h
  rw[zc9,Array.length_toList]at this
  exact⟨z,hz,this,hl⟩
 .cases h
theorem zjf{n bb:Nat}(h:zcZ n bb=true):n<=1073741824/\bb<=65536:=by
 unfold zcZ at h
 rw[Bool.and_eq_true]at h
 exact⟨Nat.le_of_ble_eq_true h.1,Nat.le_of_ble_eq_true h.2⟩
def zi0(w:World)(e k m:Nat)(cells:List Value)(q:Value)(w':World):Prop:=
 ∃ (g:G) (cur:Array Value),zdl w w' g/\g.k=k/\q=.slice (some ⟨g.b,0,none⟩) m g.C/\m<=g.C/\w'.heap[g.b]?=some (.cells cur e (0,0))/\cur.size=g.C*k/\cur.toList.take (m*k)=cells
theorem zdV{e k bb len n sCap:Nat}{t tx ty:TypeId}{i:TypeInfo}(hi:El S e k bb i)(ht:S.P.underlying t=some (.slice e)){zv:Value}(hz:i.zero=some zv)(hzk:zv.cells.size=k)(hok:zcZ (len+n) bb=true)
 {x:Value} {olds news:List Value} (hs:Src S.P k tx x n news w) (base:Option Addr) (hol:olds.length=len*k) (hold:(Builtin.firstCells i.size len (.slice base len sCap)).run S.P w.drew=.ok olds.toArray w.drew) (hg:sCap<len+n):
 ∃ q w',(Builtin.append_ #[t,tx] ty #[.slice base len sCap,x]).run S.P w=.ok q w'/\zi0 w e k (len+n) (olds++news) q w':=by
 obtain⟨o1,o2⟩:=zjf hok
 have hk:=hi.size
 subst hk
 have hb:=hi.bytes
 subst hb
 have hmul:(len+n)*i.bytes<=1073741824*65536:=Nat.mul_le_mul o1 o2
 have hr:=run_append_grow_src (P:=S.P) w t tx ty e i zv ht hi.info hz base len sCap olds hold x n news hs hg (by omega) (growslice_fits hg (by omega))
 have hge:=grownCap_ge w (len+n) sCap e
 refine⟨_,_,hr,⟨w.heap.size,i.size,grownCap w (len+n) sCap e,none,[]⟩,_,⟨rfl,rfl,rfl,Nat.le_refl _,by simp,fun b hb=>Below.heap_alloc w.drew _ b hb⟩,rfl,rfl,hge,heap_alloc_new w.drew _,?_,?_⟩
 .simp only[Array.size_append,List.size_toArray,size_zeroCells,hzk,List.length_append,hol,hs.newsLen]
  rw[<-Nat.add_mul,<-Nat.add_mul];congr 1;omega
 .simp only[Array.toList_append]
  have:(olds++news).length=(len+n)*i.size:=by rw[List.length_append,hol,hs.newsLen,Nat.add_mul]
  rw[<-this]
  exact List.take_left
theorem zr7{k m:Nat}{g:G}(d:Nat)(hk:g.k=k)(h0:0<k)(hm:m<=g.C):zf (upd γ d (some g)) (.sg k d 0 m) (.slice (some ⟨g.b,0,none⟩) m g.C):=
 .sg k d 0 m g 0 (zc _ _ _) hk h0 (by simp) (by simpa using hm)
theorem zd8{d:Nat}(hu:γ d=none)(g:G):GLe γ (upd γ d (some g)):=fun i g' hi=>by
 by_cases e:i=d
 .subst e;rw[hu]at hi;cases hi
 .rw [zh _ _ e];exact hi
theorem yb.mono{k n:Nat}{q:Row}{ns:List Value}(hγ:GLe γ γ')(h:yb γ k n q ns):yb γ' k n q ns:=by
 obtain⟨h1,h2,h3⟩:=h
 refine⟨h1,h2,?_⟩
 cases q with
 | bs m c=>exact h3
 | c l=>exact zm.mono hγ h3
theorem zi0.mk{e k m:Nat}{cells:List Value}{z:Value}(hn:zi0 w e k m cells z w')(r:Rel C γ h w)(h0:0<k){q:Row}{ob:Ob}(hm:zdS S e k q=some ob)(hq:yb γ k m q cells):Did C γ h (.sg k h.nx 0 m) (h.new ob) z w':=by
 obtain⟨g,cur,hf,hk,rfl,hle,hh,hs,ht⟩:=hn
 have hγ:=zd8 (r.us h.nx (Nat.le_refl _)) g
 exact r.born hf (zr7 _ hk h0 hle) (zld hm (hq.mono hγ) (zc _ _ _) hk hh hs ht hle)
theorem zi0.grow{e k len n:Nat}{olds news:List Value}{z:Value}{ob ob':Ob}{vs:Array Value}{mk:Nat×Nat}(hn:zi0 w e k (len+n) (olds++news) z w')(r:Rel C γ h w)(h0:0<k)(hol:olds.length=len*k)(hov:∀ j,j<len*k->olds[j]?=vs[j]?)
 {q:Row} (hq:yb γ k n q news) (hko:KO γ vs mk ob) (hg:zdG S e k len q ob=some ob'):Did C γ h (.sg k h.nx 0 (len+n)) (h.new ob') z w':=by
 obtain⟨g,cur,hf,hk,rfl,hle,hh,hs,ht⟩:=hn
 have hγ:=zd8 (r.us h.nx (Nat.le_refl _)) g
 have hlen:(olds++news).length=(len+n)*k:=by rw[List.length_append,hol,hq.1,Nat.add_mul]
 have hcs:(len+n)*k<=cur.size:=by rw[hs];exact Nat.mul_le_mul_right _ hle
 have hget:∀ j,j<(len+n)*k->cur[j]?=(olds++news)[j]?:=fun j hj=>by
  rw[<-ht,List.getElem?_take_of_lt hj,Array.getElem?_toList]
 have hnl:=hq.1
 rw[Nat.add_mul]at hget hcs
 obtain⟨k1,k2,_,_,k5,_⟩:=hko.grow hγ hg hq (vs':=cur) (mk':=(0,0)) (fun j hj=>by rw[hget j (by omega),List.getElem?_append_left (by omega)];exact hov j hj)
  (fun j hj=>by rw[hget _ (by omega),List.getElem?_append_right (by omega),hol,Nat.add_sub_cancel_left]) (by omega) (.inr rfl)
 refine r.born hf (zr7 _ hk h0 hle) (k1.om (zc _ _ _) (by rw[k2];exact hh) (by rw[hk];exact hs) (by rw[hk];exact k5))
theorem zjy{b off:Nat}{vs:Array Value}{e:Nat}{m:Nat×Nat}(hh:w.heap[b]?=some (.cells vs e m)){k n c:Nat}(hn:off+n*k<=vs.size):
 ∃ olds:List Value,olds.length=n*k/\(∀ j,j<n*k->olds[j]?=vs[off+j]?)/\(Builtin.firstCells k n (.slice (some ⟨b,off,none⟩) n c)).run P w.drew=.ok olds.toArray w.drew:=by
 refine⟨(vs.toList.drop off).take (n*k),by simp;omega,fun j hj=>by rw[List.getElem?_take_of_lt hj,List.getElem?_drop,Array.getElem?_toList],run_firstCells_some w.drew k n ⟨b,off,none⟩ n c _ (by simp;omega) fun j u hu=>?_⟩
 rw[zC,cell_of_row w.drew b (off+j) vs e m hh]
 rcases Nat.lt_or_ge j (n*k)with hj|hj
 .rw [List.getElem?_take_of_lt hj,List.getElem?_drop,Array.getElem?_toList]at hu;exact hu
 .rw [List.getElem?_eq_none (by simp;omega)]at hu;cases hu
theorem zjm{e k n:Nat}{q:Row}{ob ob':Ob}(h:zdG S e k n q ob=some ob'):(∃ e n t,ob=.c e n t)\/∃ e fz n c,ob=.bs e fz n c:=by
 cases ob <;> first|(cases h;done)|exact .inl ⟨_,_,_,rfl⟩|exact .inr ⟨_,_,_,_,rfl⟩
theorem zp6{o:Nat}{q:Row}{ob ob':Ob}(h:za9 o q ob=some ob'):(∃ e n t,ob=.c e n t)\/∃ e fz n c,ob=.bs e fz n c:=by
 cases ob <;> first|(cases h;done)|exact .inl ⟨_,_,_,rfl⟩|exact .inr ⟨_,_,_,_,rfl⟩
theorem zsO{e0:Nat}{ob:Ob}(h:(∃ e n t,zhB e0 ob=.c e n t)\/∃ e fz n c,zhB e0 ob=.bs e fz n c):(∃ e n t,ob=.c e n t)\/∃ e fz n c,ob=.bs e fz n c:=by
 cases ob <;> first|exact .inl ⟨_,_,_,rfl⟩|exact .inr ⟨_,_,_,_,rfl⟩|(rcases h with⟨_,_,_,h⟩|⟨_,_,_,_,h⟩ <;> cases h)
theorem Did.same(r:Rel C γ h w){v:BV}{z:Value}(hv:zf γ v z):Did C γ h v h z w:=⟨γ,Ext.refl _ _,Nat.le_refl _,hv,r⟩
theorem Rel.cells(r:Rel C γ h w){id:Nat}{g:G}(hg:γ id=some g)(hne:h.get id≠.x){ob:Ob}(off:Nat)(ns:List Value)(ho:OM γ (w.setCells g.b off ns) id ob):Rel C γ (h.set id ob) (w.setCells g.b off ns):=
 r.write hg hne (World.os_setCells ..) (zb8 ..) (World.output_setCells ..) (zaC ..) (fun b hb=>zbI _ _ _ _ _ hb) ho
theorem zii{b off:Nat}{vs:Array Value}{e:Nat}{m:Nat×Nat}(hh:w.heap[b]?=some (.cells vs e m)){ns:List Value}(hin:∀ j,j<ns.length->off+j<vs.size)(hfr:∀ j,j<ns.length->¬ (m.1<=off+j/\off+j<m.2)):
 (∀ j,j<ns.length->(w.cell? ⟨b,off+j,none⟩).isSome=true)/\(∀ j,j<ns.length->w.frozen? ⟨b,off+j,none⟩=false):=by
 refine⟨fun j hj=>?_,fun j hj=>?_⟩
 .rw [cell_of_row w b _ vs e m hh,Array.getElem?_eq_getElem (hin j hj)];rfl
 .have:=hfr j hj
  simp only[World.frozen?,hh]
  simp only[Bool.and_eq_false_iff,decide_eq_false_iff_not]
  rcases Nat.lt_or_ge (off+j) m.1 with h1|h1
  .left;first|omega|simp;omega
  .right;first|omega|simp;omega
theorem zdO(r:Rel C γ h w){id:Nat}{g:G}(hg:γ id=some g){off k n:Nat}{q:Row}{ob:Ob}(hp:za9 off q (h.get id)=some ob){ns:List Value}(hq:yb γ k n q ns)(hk:g.k=1->k=1):
 (∀ j,j<ns.length->(w.cell? ⟨g.b,off+j,none⟩).isSome=true)/\(∀ j,j<ns.length->w.frozen? ⟨g.b,off+j,none⟩=false)/\Rel C γ (h.set id ob) (w.setCells g.b off ns):=by
 have hkd:=zp6 hp
 obtain⟨vs,m,k1,k2,k3,k4⟩:=r.ko rfl hkd hg
 have hkk:obK k (h.get id):=by
  rcases hkd with⟨_,_,_,e⟩|⟨_,_,_,_,e⟩
  .rw [e];trivial
  .rw [e]at k4 ⊢;exact hk k4
 obtain⟨rfl,p2,p3,p4,p5⟩:=k1.put hp hq hkk
 obtain⟨c1,c2⟩:=zii k2 p2 (fun j _=>by dsimp only;omega)
 refine⟨c1,c2,r.cells hg (by rcases hkd with⟨_,_,_,e⟩|⟨_,_,_,_,e⟩ <;> rw[e] <;> simp) off ns ?_⟩
 exact p3.om hg (by rw[p4];exact zb9 _ _ _ _ _ _ _ k2) (by rw[zW];exact k3) (p5 _ k4)
end Go.Bm
/-! append, all of it. -/
namespace Go.Bm
open Go Go.RowKit
variable {S:zd}{γ γ':Nat->Option G}{C:Ctx}{h h':Hp}{w w':World}{σ:Tr BV}{a:Act}{P:Program}
theorem zkB{k tx m:Nat}{y:Value}{news:List Value}(hs:Src P k tx y m news w)(h:m=0):news=[]:=List.eq_nil_of_length_eq_zero (by rw[hs.newsLen,h,Nat.zero_mul])
theorem zjN{t tx ty e k:Nat}{i:TypeInfo}(hi:P.info? e=some i)(hk:i.size=k)(ht:P.underlying t=some (.slice e)){y:Value}{news:List Value}(hs:Src P k tx y 0 news w):
 (Builtin.append_ #[t,tx] ty #[.slice none 0 0,y]).run P w=.ok (.slice none 0 0) w:=by
 subst hk
 have hn:=zkB hs rfl
 subst hn
 rcases hs.kind with⟨e',hk⟩|hk <;> simp[Builtin.append_,run_underlying ht,run_underlying hk,sizeOf,typeInfo,hi,hs.len,hs.cells]
theorem yb.flat{k m:Nat}{q:Row}{ns:List Value}(hq:yb γ k m q ns):yb γ 1 (m*k) q ns:=by
 obtain⟨h1,h2,h3⟩:=hq
 refine⟨by rw[h1,Nat.mul_one],h2,?_⟩
 cases q with
 | c l=>exact h3
 | bs n c=>
  obtain⟨rfl,h4,h5,h6⟩:=h3
  rcases h4 with rfl|rfl
  .rw [Nat.zero_mul];exact⟨rfl,.inl rfl,h5,h6⟩
  .rw [Nat.mul_one];exact⟨rfl,.inr rfl,h5,h6⟩
theorem zv0{vs:Array Value}{mk:Nat×Nat}{e k n:Nat}{q:Row}{ob ob':Ob}(hk:KO γ vs mk ob)(h:zdG S e k n q ob=some ob'):n*k<=vs.size:=by
 cases ob <;> (try exact hk.elim)
 case c e' m tr=>
  simp only[zdG]at h
  split at h
  .rename_i l hb h8
   rw[Bool.and_eq_true]at hb
   exact Nat.le_trans (Nat.le_of_ble_eq_true hb.2) hk.2.1
  .cases h
 case bs e' fz m c=>
  simp only[zdG]at h
  split at h
  .rename_i m' c' hb hcr
   rw[Bool.and_eq_true,Bool.and_eq_true]at hb
   have:=Nat.eq_of_beq_eq_true hb.2.1
   subst this
   rw[Nat.mul_one]
   exact Nat.le_trans (Nat.le_of_ble_eq_true hb.2.2) hk.1
  .cases h
theorem ztu(hT:TyOk S)(r:Rel C γ h w){e k bb t tx ty m:Nat}{i:TypeInfo}(hi:El S e k bb i)(ht:S.P.underlying t=some (.slice e))(h0:0<k){x v:BV}{q:Row}
 (hv:zFj S h e k bb m q x=some (v,h')) {y u:Value} {news:List Value} (hs:Src S.P k tx y m news w) (hq:yb γ k m q news) (hx:zf γ x u):
 ∃ z w',(Builtin.append_ #[t,tx] ty #[u,y]).run S.P w=.ok z w'/\Did C γ h v h' z w':=by
 unfold zFj at hv
 split at hv
 . -- nil
  cases hx
  unfold appN at hv
  split at hv
  .rename_i hb
   have:=Nat.eq_of_beq_eq_true hb
   subst this
   cases hv
   exact⟨_,_,zjN hi.info hi.size ht hs,Did.same r .ns⟩
  .rename_i hb
   have hm0:m≠0:=Nat.ne_of_beq_eq_false hb
   split at hv
   .rename_i ob hok hm
    cases hv
    rw[Bool.and_eq_true]at hok
    obtain⟨zv,hz,hzk,_⟩:=zeX hT hi hok.2
    obtain⟨z,w',hr,hn⟩:=zdV (ty:=ty) hi ht hz hzk (by rw[Nat.zero_add];exact hok.1) hs none (olds:=[]) (by simp) (by simp[Builtin.firstCells]) (sCap:=0) (by omega)
    rw[Nat.zero_add,List.nil_append]at hn
    exact⟨z,w',hr,hn.mk r h0 hm hq⟩
   .cases hv
 . -- a slice
  rename_i id off len cap
  cases hx with|sl _ _ _ _ g hg hc=>
  unfold appL at hv
  split at hv
  .rename_i hroom
   have hroom:len+m<=cap:=Nat.le_of_ble_eq_true hroom
   split at hv
   .rename_i hb
    have:=Nat.eq_of_beq_eq_true hb
    subst this
    cases hv
    have hn:=zkB hs rfl
    subst hn
    have hk:=hi.size
    subst hk
    exact⟨_,_,run_append_room_src w t tx ty e i ht hi.info g.b off len cap y 0 [] hs hroom (by simp) (by simp),Did.same r (.sl id off len cap g hg hc)⟩
   .split at hv
    .rename_i ob hp
     cases hv
     have hk:=hi.size
     subst hk
     obtain⟨c1,c2,c3⟩:=zdO r hg hp hq.flat (fun _=>rfl)
     exact⟨_,_,run_append_room_src w t tx ty e i ht hi.info g.b off len cap y m news hs hroom c1 c2,⟨γ,Ext.refl _ _,Nat.le_refl _,.sl id off (len+m) cap g hg hroom,c3⟩⟩
    .cases hv
  .rename_i hroom
   have hroom:¬ (len+m<=cap):=fun hh=>by have h5:Nat.ble (len.add m) cap=true:=Nat.ble_eq_true_of_le hh;rw[h5]at hroom;cases hroom
   split at hv
   .rename_i hok
    rw[Bool.and_eq_true]at hok
    obtain⟨zv,hz,hzk,_⟩:=zeX hT hi hok.2
    split at hv
    .split at hv
     .rename_i ob hgr
      cases hv
      have hkd:=zjm hgr
      have hkd':=zsO hkd
      obtain⟨vs,mk,k1,k2,k3,k4⟩:=r.ko rfl hkd' hg
      have hfr:=k1.fresh e
      have hle:len*k<=vs.size:=zv0 hfr hgr
      obtain⟨olds,o1,o2,o3⟩:=zjy (P:=S.P) (k:=k) (n:=len) (c:=cap) (off:=0) k2 (by omega)
      have hk:=hi.size
      obtain⟨z,w',hr,hn⟩:=zdV (ty:=ty) hi ht hz hzk hok.1 hs (some ⟨g.b,0,none⟩) o1 (by rw[hk];exact o3) (by omega)
      exact⟨z,w',hr,hn.grow r h0 o1 (vs:=vs) (fun j hj=>by rw[o2 j hj,Nat.zero_add]) hq hfr hgr⟩
     .cases hv
    .split at hv
     .rename_i q0 hq0
      split at hv
      .rename_i q1 hcat
       split at hv
       .rename_i ob hm
        cases hv
        obtain⟨olds,o1,o2⟩:=zcf r hq0 hg
        have hk:=hi.size
        obtain⟨z,w',hr,hn⟩:=zdV (ty:=ty) hi ht hz hzk hok.1 hs (some ⟨g.b,off,none⟩) o1.1 (run_firstCells_some w.drew i.size len ⟨g.b,off,none⟩ len cap olds (by rw[hk];exact o1.1) (fun j u hu=>by rw[zC];simpa using o2 j u hu)) (by omega)
        exact⟨z,w',hr,hn.mk r h0 hm (zex hcat o1 hq)⟩
       .cases hv
      .cases hv
     .cases hv
   .cases hv
 . -- a slice whose room is not known
  rename_i k' id off len
  split at hv
  .rename_i hkb
   have:=Nat.eq_of_beq_eq_true hkb
   subst this
   cases hx with|sg _ _ _ _ g o hg hk1 _ ho hc=>
   have hk:=hi.size
   unfold appG at hv
   split at hv
   .rename_i hb
    have:=Nat.eq_of_beq_eq_true hb
    subst this
    cases hv
    have hn:=zkB hs rfl
    subst hn
    subst hk
    exact⟨_,_,run_append_room_src w t tx ty e i ht hi.info g.b off len (g.C-o) y 0 [] hs (by omega) (by simp) (by simp),Did.same r (.sg i.size id off len g o hg hk1 h0 ho hc)⟩
   .split at hv
    .rename_i hok hoff
     have hoff:=Nat.eq_of_beq_eq_true hoff
     subst hoff
     have ho0:o=0:=by
      rcases Nat.mul_eq_zero.1 ho.symm with h|h
      .exact h
      .omega
     subst ho0
     rw[Bool.and_eq_true]at hok
     obtain⟨zv,hz,hzk,_⟩:=zeX hT hi hok.2
     split at hv
     .rename_i ob hgr
      cases hv
      have hkd:=zjm hgr
      obtain⟨vs,mk,k1,k2,k3,k4⟩:=r.ko rfl hkd hg
      have hne:h.get id≠.x:=by rcases hkd with⟨_,_,_,e⟩|⟨_,_,_,_,e⟩ <;> rw[e] <;> simp
      have rk:=r.kill id
      by_cases hroom:len+m<=g.C
      .have hfit:len*k+news.length<=(zaH vs (len*k) news).size:=by
        rw[zW,k3,hk1,hs.newsLen,<-Nat.add_mul];exact Nat.mul_le_mul_right _ hroom
       have hγ:=zd8 (r.us h.nx (Nat.le_refl _)) g
       obtain⟨p1,p2,p3,p4,p5,p6⟩:=k1.grow hγ hgr hq (vs':=zaH vs (len*k) news) (mk':=mk) (fun j hj=>zbo _ _ _ _ (.inl hj)) (fun j hj=>zcT _ _ _ _ hj (by rw[zW]at hfit;omega)) hfit (.inl ⟨rfl,zW _ _ _⟩)
       rw[zW]at hfit
       obtain⟨c1,c2⟩:=zii k2 (off:=len*k) (ns:=news) (fun j hj=>by omega) (fun j hj=>p6 _ (by omega) (by omega))
       subst hk
       have hrun:=run_append_room_src (P:=S.P) w t tx ty e i ht hi.info g.b 0 len (g.C-0) y m news hs hroom (by rw[Nat.zero_add];exact c1) (by rw[Nat.zero_add];exact c2)
       rw[Nat.zero_add]at hrun
       have hlt:=(r.lo id g hne hg).1
       refine⟨_,_,hrun,upd γ h.nx (some g),Ext.upd (Nat.le_refl _),by rw[Hp.new_nx];exact Nat.le_succ _,zr7 _ hk1 h0 hroom,?_⟩
       have e1:(h.set id .x).new ob=⟨h.nx+1,((h.set id .x).set h.nx ob).t⟩:=by unfold Hp.new;rw[zkb];rfl
       rw[e1]
       refine rk.birthAt (r.us _ (Nat.le_refl _)) (Nat.le_succ h.nx) (Nat.lt_succ_self _) (World.os_setCells ..) (zb8 ..) (World.output_setCells ..) (by rw[zaC];exact Nat.le_refl _) (by rw[zaC];exact hlt) (r.lo id g hne hg).2 ?_ (fun b hb _=>zbI _ _ _ _ _ hb) ?_
       .intro j g1 hj h1 eb
        rw[Hp.get_set]at hj
        by_cases e:j=id
        .rw [if_pos e]at hj;exact hj rfl
        .rw [if_neg e]at hj;exact e (r.sep j id g1 g hj hne h1 hg eb)
       .exact p1.om (zc _ _ _) (by rw[p2,<-p3];exact zb9 _ _ _ _ _ _ _ k2) (by rw[zW];exact k3) (by rw[hk1];exact p5)
      .have hle:len*k<=vs.size:=by rw[k3,hk1];exact Nat.mul_le_mul_right _ (by omega)
       obtain⟨olds,o1,o2,o3⟩:=zjy (P:=S.P) (k:=k) (n:=len) (c:=g.C-0) (off:=0) k2 (by omega)
       obtain⟨z,w',hr,hn⟩:=zdV (ty:=ty) hi ht hz hzk hok.1 hs (some ⟨g.b,0,none⟩) o1 (by rw[hk];exact o3) (by omega)
       exact⟨z,w',hr,hn.grow rk h0 o1 (vs:=vs) (fun j hj=>by rw[o2 j hj,Nat.zero_add]) hq k1 hgr⟩
     .cases hv
    .cases hv
  .cases hv
 .cases hv
end Go.Bm
/-! Operations that change memory. -/
namespace Go.Bm
open Go Go.RowKit
variable {S:zd}{γ γ':Nat->Option G}{C:Ctx}{h h':Hp}{w w':World}{σ:Tr BV}{a:Act}{P:Program}
theorem zmI(z:Array Value)(n:Nat):Builtin.zeroCells z n=madeCells z (n*z.size):=rfl
theorem ztt(hT:TyOk S)(r:Rel C γ h w){e k bb t tx ty:Nat}{i:TypeInfo}{kx:IntKind}(hi:El S e k bb i)(ht:S.P.underlying t=some (.slice e))(htx:S.P.underlying tx=some (.int kx))(h0:0<k){x y v:BV}
 (hv:zFi S h e k bb x y=some (v,h')) {u z:Value} (hx:zf γ x u) (hy:zf γ y z):
 ∃ q w',(Builtin.append_ #[t,tx] ty #[u,z]).run S.P w=.ok q w'/\Did C γ h v h' q w':=by
 unfold zFi at hv
 split at hv
 .rename_i n zl hn hz
  split at hv
  .rename_i hb
   rw[Bool.and_eq_true,Bool.and_eq_true]at hb
   split at hv
   .rename_i ob hm
    cases hv
    cases hx
    obtain⟨kk,rfl⟩:=zbY hn hy
    obtain⟨o1,o2⟩:=zjf hb.1
    have hzl:=Nat.eq_of_beq_eq_true hb.2.1
    have hn1:1<=n:=Nat.le_of_ble_eq_true hb.2.2
    obtain⟨zv,hzv,rfl,j,hj,hzj⟩:=ye hT hz
    have hzs:zv.cells.size=k:=by rw[<-hzl,zc9,Array.length_toList]
    have hk:=hi.size
    have hbb:=hi.bytes
    subst hk hbb
    have hw:IntKind.i64.wrap (Int.ofNat n)=Int.ofNat n:=wrap_small _ (by simp) (by simp;omega)
    have hmul:n*i.bytes<=1073741824*65536:=Nat.mul_le_mul o1 o2
    have hfit:=growslice_fits (need:=n) (old:=0) (bytes:=i.bytes) (by omega) (by omega)
    have hneg:¬ ((n:Int)<0):=by omega
    have hbig:¬ ((281474976710656:Int)<(n:Int)*(i.bytes:Int)):=by rw[<-Int.natCast_mul];omega
    have hmx:IntKind.i64.max=9223372036854775807:=rfl
    have h63:¬ ((9223372036854775807:Int)<(n:Int)):=by omega
    have hfit':¬ (281474976710656<Builtin.nextslicecap n 0*i.bytes):=by omega
    have hnz:¬ (n*i.size=0):=by
     intro h;rcases Nat.mul_eq_zero.1 h with h|h <;> omega
    have hnr:¬ (n<=0):=by omega
    have hge:=grownCap_ge w n 0 e
    have hrun:(Builtin.append_ #[t,tx] ty #[.slice none 0 0,.int kk (.ofNat n)]).run S.P w=
     .ok (.slice (some ⟨w.heap.size,0,none⟩) n (grownCap w n 0 e)) (w.drew.alloc (.cells (madeCells zv.cells (n*i.size)++Builtin.zeroCells zv.cells (grownCap w n 0 e-n)) e)):=by
     have hzz:Builtin.zeroCells zv.cells n=madeCells zv.cells (n*i.size):=by rw[zmI,hzs]
     have hw':IntKind.i64.wrap (n:Int)=(n:Int):=hw
     simp[Builtin.append_,run_underlying ht,run_underlying htx,sizeOf,typeInfo,hi.info,asInt,asIntOf,hw',hneg,hbig,hmx,h63,hfit',hnz,hnr,hzv,Builtin.firstCells,newRow,Question.forced,grownCap,hzz]
     omega
    have hrel:=zjY (γ:=γ) (n:=n) (zv:=zv) hzl
    have hcur:zi0 w e i.size n (madeCells zv.cells (n*i.size)).toList (.slice (some ⟨w.heap.size,0,none⟩) n (grownCap w n 0 e)) (w.drew.alloc (.cells (madeCells zv.cells (n*i.size)++Builtin.zeroCells zv.cells (grownCap w n 0 e-n)) e)):=by
     refine⟨⟨w.heap.size,i.size,grownCap w n 0 e,none,[]⟩,madeCells zv.cells (n*i.size)++Builtin.zeroCells zv.cells (grownCap w n 0 e-n),⟨rfl,rfl,rfl,Nat.le_refl _,by simp,fun b hb=>Below.heap_alloc w.drew _ b hb⟩,rfl,rfl,hge,heap_alloc_new w.drew _,?_,?_⟩
     .simp only[Array.size_append,size_madeCells,size_zeroCells,hzs]
      rw[<-Nat.add_mul];congr 1;omega
     .simp only[Array.toList_append]
      have:(madeCells zv.cells (n*i.size)).toList.length=n*i.size:=by rw[Array.length_toList,size_madeCells]
      exact List.take_left' this
    exact⟨_,_,hrun,hcur.mk r h0 hm ⟨by rw[Array.length_toList,size_madeCells],ziv hm hrel,hrel⟩⟩
   .cases hv
  .cases hv
 .cases hv
theorem zl1(hT:TyOk S)(r:Rel C γ h w){e k bb t tx ty:Nat}{i:TypeInfo}(hi:El S e k bb i)(ht:S.P.underlying t=some (.slice e))(htx:(∃ e',S.P.underlying tx=some (.slice e'))\/S.P.underlying tx=some .string)(h0:0<k){x y v:BV}
 (hv:zFl S h e k bb x (zgC h k y)=some (v,h')) {u z:Value} (hx:zf γ x u) (hy:zf γ y z):
 ∃ q w',(Builtin.append_ #[t,tx] ty #[u,z]).run S.P w=.ok q w'/\Did C γ h v h' q w':=by
 cases hr:zgC h k y with
 | none=>rw[hr]at hv;cases hv
 | some p=>
  obtain⟨m,q⟩:=p
  rw[hr]at hv
  obtain⟨news,h1,h2⟩:=zsd r hr htx hy
  exact ztu hT r hi ht h0 hv h1 h2 hx
theorem ztv(hT:TyOk S)(r:Rel C γ h w){t tx ty:Nat}{x y v:BV}(hv:zFk S h t tx x y=some (v,h')){u z:Value}(hx:zf γ x u)(hy:zf γ y z):
 ∃ q w',(Builtin.append_ #[t,tx] ty #[u,z]).run S.P w=.ok q w'/\Did C γ h v h' q w':=by
 unfold zFk at hv
 split at hv
 .cases hv
 .rename_i e he
  have ht:=zaR hT he
  split at hv
  .rename_i k bb hk hb
   obtain⟨i,hi⟩:=zuR hT hk hb
   split at hv
   .rename_i hu;exact ztt hT r hi ht (zB hT hu) (Nat.succ_pos _) hv hx hy
   .rename_i hu;exact zl1 hT r hi ht (.inl ⟨_,zB hT hu⟩) (Nat.succ_pos _) hv hx hy
   .rename_i hu;exact zl1 hT r hi ht (.inr (zB hT hu)) (Nat.succ_pos _) hv hx hy
   .cases hv
  .cases hv
theorem zg5(hT:TyOk S)(r:Rel C γ h w){t:Nat}{x y:BV}(hv:zcQ S h t x y=some h'){u z:Value}(hx:zf γ x u)(hy:zf γ y z):
 ∃ w',(Instr.storeAt t u z).run S.P w=.ok () w'/\h'.nx=h.nx/\Rel C γ h' w':=by
 unfold zcQ at hv
 split at hv
 .rename_i id off k hk
  cases hx with|p _ _ g hg=>
  unfold zog at hv
  split at hv
  .rename_i hb
   rw[Bool.and_eq_true]at hb
   have hlen:=Nat.eq_of_beq_eq_true hb.1
   split at hv
   .rename_i ob hst
    cases hv
    have hok:okV y=true:=by
     have h1:=hb.2
     cases y <;> first|rfl|(simp[cellsOf,zbb,one]at h1)
    have hc:=ziW hok hy
    have h1:=zow hc hb.2
    have hsz:z.cells.size=k:=by rw[<-hlen,<-Array.length_toList];exact hc.length
    have hrun:(∀ j,j<z.cells.toList.length->(w.cell? ⟨g.b,off+j,none⟩).isSome=true)->(∀ j,j<z.cells.toList.length->w.frozen? ⟨g.b,off+j,none⟩=false)->
     (Instr.storeAt t (.pointer (some ⟨g.b,off,none⟩)) z).run S.P w=.ok () (w.setCells g.b off z.cells.toList):=fun c1 c2=>by
     have hst:=run_storeCells_cells (P:=S.P) g.b off z.cells.toList 0 w (by simpa using c1) (by simpa using c2) h1
     simp only[Nat.add_zero]at hst
     simp only[Instr.storeAt,Instr.sureAddr,storeVar,Sem.run_bind,Sem.run_pure,Result.andThen_ok,zad hT hk,hsz,hst]
     rw[if_neg (fun hne=>hne rfl)]
     exact hst
    have hq:yb γ 1 (z.cells.toList.length) (.c (cellsOf y)) z.cells.toList:=⟨by rw[Nat.mul_one],h1,hc⟩
    unfold zxH at hst
    split at hst
    .rename_i e n tr ho
     split at hst
     .rename_i hle
      cases hst
      have hle:off+k<=n:=Nat.le_of_ble_eq_true hle
      have hp:za9 off (.c (cellsOf y)) (h.get id)=some (.c e n (tr.sets off (cellsOf y))):=by
       rw[ho]
       simp only[za9,hb.2,Bool.true_and]
       have:Nat.ble (Nat.add off (cellsOf y).length) n=true:=Nat.ble_eq_true_of_le (by rw[hlen];exact hle)
       rw[this]
      obtain⟨c1,c2,c3⟩:=zdO r hg hp hq (fun _=>rfl)
      exact⟨_,hrun c1 c2,rfl,c3⟩
     .cases hst
    .obtain ⟨c1,c2,c3⟩:=zdO r hg hst hq (fun _=>rfl)
     exact⟨_,hrun c1 c2,rfl,c3⟩
   .cases hv
  .cases hv
 .cases hv
theorem zak.push{k v:BV}{e:MapEntry}(h1:zf γ k e.key)(h2:zf γ v e.val):∀ {l:List (BV×BV)} {es:List MapEntry},zak γ l es->zak γ (l++[(k,v)]) (es++[e])
 | [],[],_=>⟨h1,h2,trivial⟩
 | _::_,_::_,h=>⟨h.1,h.2.1,zak.push h1 h2 h.2.2⟩
theorem zjC{k v:BV}:∀ {l:List (BV×BV)},zfq l->(∀ y ∈ l,yK y.1 k=some false)->zfq (l++[(k,v)])
 | [],_,_=>⟨by simp,trivial⟩
 | x :: l, h, hk => ⟨fun y hy => by
     rcases List.mem_append.1 hy with hy|hy
     .exact h.1 y hy
     .simp at hy;subst hy;exact hk x (by simp),zjC h.2 fun y hy=>hk y (by simp[hy])⟩
theorem zho(hT:TyOk S)(r:Rel C γ h w){t:Nat}{m k v x:BV}(hv:zcs S h t m k v=some (x,h')){u z y:Value}(hm:zf γ m u)(hk:zf γ k z)(hy:zf γ v y):
 x=.t []/\∃ w',(Instr.mapUpdate t u z y).run S.P w=.ok () w'/\h'.nx=h.nx/\Rel C γ h' w':=by
 unfold zcs at hv
 split at hv
 .rename_i id kt e hu
  have hu:=zB hT hu
  cases hm with|m _ g hg=>
  split at hv
  .rename_i l ho hko
   obtain⟨d,hd1,hd2⟩:=zlj hT hko
   split at hv
   .rename_i hf
    cases hv
    obtain⟨es,cl,l',h1,h2,h3,h4⟩:=OM.mObj r ho hg
    have hfk:∀ y ∈ l',yK k y.1=some false:=fun y hy=>zb4 hf y (h2.mem_iff.1 hy)
    have hnone:=ziK hd2 hk h3 hfk 0
    have hlt:g.b<w.heap.size:=(Array.getElem?_eq_some_iff.1 h1).1
    refine⟨rfl,{ w with heap:=w.heap.setIfInBounds g.b (.map (es.push { key:=z,val:=y,born:=cl }) (cl+1)) },?_,rfl,?_⟩
    .simp only[Instr.mapUpdate,Sem.run_bind,run_underlying hu,Result.andThen_ok,zbp h1,zhb hd1 hd2 hk,zi7 hd1 hnone]
     simp[setObj,Sem.run,h1]
    .refine r.write hg (by rw[ho];simp) rfl rfl rfl (by simp) (fun b hb=>by simp[Ne.symm hb]) ⟨g,es.push { key:=z,val:=y,born:=cl },cl+1,l'++[(k,v)],hg,by simp[hlt],List.Perm.append_right _ h2,?_,zjC h4 fun y hy=>ziN (hfk y hy)⟩
     rw[Array.toList_push]
     exact zak.push hk hy h3
   .cases hv
  .cases hv
 .cases hv
end Go.Bm
/-! Texts in pieces: append, unsafe.String. -/
namespace Go.Bm
open Go Go.RowKit
variable {S:zd}{γ γ':Nat->Option G}{C:Ctx}{h h':Hp}{w w':World}{σ:Tr BV}{a:Act}{P:Program}
theorem zAV{t:List UInt8}:∀ u ∈ t.map u8V,u.oneCell'=true:=by
 intro u hu
 obtain⟨b,_,rfl⟩:=List.mem_map.1 hu
 rfl
theorem zAW(t:List UInt8):t.map u8V=(List.range t.length).map (zq (encB t)):=by
 apply List.ext_getElem?
 intro i
 rcases Nat.lt_or_ge i t.length with hi|hi
 .simp only[List.getElem?_map,List.getElem?_range hi,List.getElem?_eq_getElem hi,Option.map_some]
  rw[ztU (List.getElem?_eq_getElem hi)]
 .rw [List.getElem?_eq_none (by simpa using hi),List.getElem?_eq_none (by simpa using hi)]
theorem zjJ.src{u:Value}{t:List UInt8}(k:zjJ w u t){tx:TypeId}(hk:(∃ e',P.underlying tx=some (.slice e'))\/P.underlying tx=some .string):Src P 1 tx u t.length (t.map u8V) w:=by
 rcases k with rfl|⟨rfl,rfl⟩|⟨b,off,cap,⟨rfl,hc⟩|⟨ad,rfl,rfl⟩⟩
 .rw [zAW,<-zmU];exact zt0 hk _ _
 .exact zt1 hk 0
 .refine zab hk _ (by simp) (fun j x hx=>?_) zAV
  rw[List.getElem?_map]at hx
  cases hb:t[j]? with
  | none=>rw[hb]at hx;cases hx
  | some y=>
   rw[hb]at hx
   cases hx
   rw[zC];exact hc j y hb
 .exact zab hk ad (by simp) (fun j u hu=>by simp at hu) (fun u h=>by cases h)
theorem zvG(r:Rel C γ h w){e id c fz:Nat}{qs:List Nat}{p:List Ck}(hv:zD9 h e id c qs=some (fz,p)){g:G}(hg:γ id=some g){m:Nat}(hl:zH γ qs m):
 h.get id≠.x/\∃ vs mk t,w.heap[g.b]?=some (.cells vs e mk)/\g.k=1/\vs.size=g.C/\zG γ p t/\t.length=c+m/\c+m<=vs.size/\(∀ (j:Nat) (b:UInt8),t[j]?=some b->vs[j]?=some (u8V b))/\
  (∀ q,c+m<=q->q<vs.size->¬ (mk.1<=q/\q<mk.2))/\(∀ n',c+m<=n'->n'<=vs.size->zmo fz mk n' vs.size)/\∀ n' s,zmo fz (0,0) n' s:=by
 have z0:fz<=2->∀ n' s,zmo fz (0,0) n' s:=fun hf n' s=>by
  match fz,hf with
  | 0,_=>rfl
  | 1,_=>exact⟨rfl,Nat.zero_le _⟩
  | 2,_=>intro q _;dsimp only;omega
 have le2:∀ {fz:Nat} {mk:Nat×Nat} {n s:Nat},zmo fz mk n s->fz<=2:=fun {fz mk n s} hf=>by
  match fz,hf with
  | 0,_=>omega
  | 1,_=>omega
  | 2,_=>omega
  | _+3,hf=>exact hf.elim
 unfold zD9 at hv
 split at hv
 .rename_i e' fz' m0 d ho
  split at hv
  .rename_i hb
   cases hv
   rw[Bool.and_eq_true,Bool.and_eq_true,Bool.or_eq_true]at hb
   have he:=Nat.eq_of_beq_eq_true hb.1
   subst he
   have hcm:c<=m0:=Nat.le_of_ble_eq_true hb.2.1
   have:=hl.nil_inv
   subst this
   obtain⟨vs,mk,h1,h2,h3,h4,h5,h6,h7⟩:=OM.bObj r ho hg
   have hcells:∀ (j:Nat) (b:UInt8),(dec c (low d c))[j]?=some b->vs[j]?=some (u8V b):=fun j b hjb=>by
    have hj:j<c:=by
     rcases Nat.lt_or_ge j c with h|h
     .exact h
     .rw [List.getElem?_eq_none (by rw[zi];exact h)]at hjb;cases hjb
    rw[yx _ _ _ hj]at hjb
    cases hjb
    rw[h6 j (by omega),zn0,zq,zq,zdd _ _ _ hj]
   refine⟨by rw[ho];simp,vs,mk,dec c (low d c),h1,h2,h3,?_,by rw[zi];rfl,by omega,hcells,?_,?_,z0 (le2 h5)⟩
   .have:=zik (γ:=γ) (zel d c) zG.nil
    rwa [List.append_nil]at this
   .intro q hq hs
    rcases hb.2.2 with h0|h0
    .have:=Nat.eq_of_beq_eq_true h0
     subst this
     have:mk=(0,0):=h5
     subst this
     dsimp only;omega
    .have:=Nat.eq_of_beq_eq_true h0
     subst this
     match fz,h5 with
     | 0,h5=>have:mk=(0,0):=h5;subst this;dsimp only;omega
     | 1,h5=>have h5:mk.1=0/\mk.2<=c:=h5;omega
     | 2,h5=>exact h5 q hs
     | _+3,h5=>exact h5.elim
   .intro n' hn' hs
    match fz,h5,hb.2.2 with
    | 0,h5,_=>exact h5
    | 1,h5,h0=>
     have h5:mk.1=0/\mk.2<=m0:=h5
     rcases h0 with h0|h0
     .cases h0
     .have:=Nat.eq_of_beq_eq_true h0
      exact⟨h5.1,by omega⟩
    | 2,h5,_=>exact h5
    | _+3,h5,_=>exact h5.elim
  .cases hv
 .rename_i e' fz' l ho
  split at hv
  .rename_i p' r' hb hcut
   have he:=Nat.eq_of_beq_eq_true hb
   subst he
   obtain⟨vs,mk,t,h1,h2,h3,h4,h5,h6,h7,h8⟩:=OM.rObj r ho hg
   obtain⟨t1,t2,q1,q2,rfl,q4⟩:=zbB hcut h4 hl
   have hsz:t1.length<=vs.size:=by rw[List.length_append]at h5;omega
   have hcells:∀ (j:Nat) (b:UInt8),t1[j]?=some b->vs[j]?=some (u8V b):=fun j b hjb=>by
    refine h7 j b ?_
    have hj:j<t1.length:=by
     rcases Nat.lt_or_ge j t1.length with h|h
     .exact h
     .rw [List.getElem?_eq_none h]at hjb;cases hjb
    rw[List.getElem?_append_left hj];exact hjb
   have hne:h.get id≠.x:=by rw[ho];simp
   split at hv
   .cases hv
    have:mk=(0,0):=h6
    subst this
    exact⟨hne,vs,(0,0),t1,h1,h2,h3,q1,q4,by omega,hcells,fun q _ _=>by dsimp only;omega,fun _ _ _=>rfl,z0 (Nat.zero_le _)⟩
   .cases hv
    have:=q2.nil_inv
    subst this
    rw[List.append_nil]at h6
    refine⟨hne,vs,mk,t1,h1,h2,h3,q1,q4,by omega,hcells,?_,?_,z0 (le2 h6)⟩
    .intro q hq hs
     match fz,h6 with
     | 0,h6=>have:mk=(0,0):=h6;subst this;dsimp only;omega
     | 1,h6=>have h6:mk.1=0/\mk.2<=t1.length:=h6;omega
     | 2,h6=>exact h6 q hs
     | _+3,h6=>exact h6.elim
    .intro n' hn' hs
     match fz,h6 with
     | 0,h6=>exact h6
     | 1,h6=>have h6:mk.1=0/\mk.2<=t1.length:=h6;exact⟨h6.1,by omega⟩
     | 2,h6=>exact h6
     | _+3,h6=>exact h6.elim
   .cases hv
  .cases hv
 .cases hv
theorem zEn{t:List UInt8}{j:Nat}{u:Value}(h:(t.map u8V)[j]?=some u):∃ b,t[j]?=some b/\u=u8V b:=by
 rw[List.getElem?_map]at h
 cases hb:t[j]? with
 | none=>rw[hb]at h;cases h
 | some b=>rw[hb]at h;cases h;exact⟨b,rfl,rfl⟩
theorem zg3(hT:TyOk S)(hG:yC S C)(r:Rel C γ h w){e bb t tx ty:Nat}{i:TypeInfo}(hi:El S e 1 bb i)(hbb:bb<=65536)(hz:okZ S e 1=true)(ht:S.P.underlying t=some (.slice e)){id c:Nat}{qs:List Nat}{l:List Ck}{v:BV}
 (hv:zn7 S h e id c qs l=some (v,h')) {y:Value} {tn:List UInt8} (hs:Src S.P 1 tx y tn.length (tn.map u8V) w) (hl:zG γ l tn) {g:G} (hg:γ id=some g) {m:Nat} (hm:zH γ qs m) (hc:c+m<=g.C):
 ∃ z w',(Builtin.append_ #[t,tx] ty #[.slice (some ⟨g.b,0,none⟩) (c+m) g.C,y]).run S.P w=.ok z w'/\Did C γ h v h' z w':=by
 unfold zn7 at hv
 split at hv
 .rename_i fz p hp
  split at hv
  .rename_i n rs hmost hlen
   cases hv
   obtain⟨hne,vs,mk,tp,p1,p2,p3,p4,p5,p6,p7,p8,p9,p10⟩:=zvG r hp hg hm
   have hcat:=p4.cat hl
   have hmost:=zei hG r hmost (p4.app hl)
   obtain⟨mm,hm1,hm2⟩:=zag hcat
   rw[hlen]at hm1 hm2
   dsimp only at hm1 hm2
   rw[List.length_append]at hm2 hmost
   obtain⟨zv,hz1,hzk,_⟩:=zeX hT hi hz
   have hk:=hi.size
   have hlt:=(r.lo id g hne hg).1
   have rk:=r.kill id
   have hγ:∀ g',GLe γ (upd γ h.nx (some g')):=zd8 (r.us h.nx (Nat.le_refl _))
   have e1:∀ ob:Ob,(h.set id .x).new ob=⟨h.nx+1,((h.set id .x).set h.nx ob).t⟩:=fun ob=>by unfold Hp.new;rw[zkb];rfl
   have tot:n+mm=c+m+tn.length:=by rw[<-hm2,p5]
   by_cases hroom:c+m+tn.length<=g.C
   .obtain ⟨c1,c2⟩:=zii p1 (off:=c+m) (ns:=tn.map u8V) (fun j hj=>by simp at hj;omega) (fun j hj=>by simp at hj;exact p8 _ (by omega) (by omega))
    have hs':Src S.P i.size tx y tn.length (tn.map u8V) w:=by rw[hk];exact hs
    have hrun:=run_append_room_src (P:=S.P) w t tx ty e i ht hi.info g.b 0 (c+m) g.C y tn.length (tn.map u8V) hs' hroom
     (by rw[Nat.zero_add,hk,Nat.mul_one];exact c1) (by rw[Nat.zero_add,hk,Nat.mul_one];exact c2)
    rw[hk,Nat.zero_add,Nat.mul_one]at hrun
    have hbr:=zea (γ:=upd γ h.nx (some g)) (id:=h.nx) (c:=n) (zc _ _ _) p2 (hm1.mono (hγ g)) (by omega)
    rw[tot]at hbr
    refine⟨_,_,hrun,upd γ h.nx (some g),Ext.upd (Nat.le_refl _),by rw[Hp.new_nx];exact Nat.le_succ _,hbr,?_⟩
    rw[e1]
    refine rk.birthAt (r.us _ (Nat.le_refl _)) (Nat.le_succ h.nx) (Nat.lt_succ_self _) (World.os_setCells ..) (zb8 ..) (World.output_setCells ..) (by rw[zaC];exact Nat.le_refl _) (by rw[zaC];exact hlt) (r.lo id g hne hg).2 ?_ (fun b hb _=>zbI _ _ _ _ _ hb) ?_
    .intro j g1 hj h1 eb
     rw[Hp.get_set]at hj
     by_cases e:j=id
     .rw [if_pos e]at hj;exact hj rfl
     .rw [if_neg e]at hj;exact e (r.sep j id g1 g hj hne h1 hg eb)
    .refine ⟨g,_,mk,tp++tn,zc _ _ _,zb9 _ _ _ _ _ _ _ p1,p2,by rw[zW];exact p3,hcat.mono (hγ g),by rw[zW,List.length_append];omega,?_,fun j b hb=>?_⟩
     .rw [zW,List.length_append];exact p9 _ (by omega) (by omega)
     .rcases Nat.lt_or_ge j (c+m)with hj|hj
      .rw [List.getElem?_append_left (by omega)]at hb
       rw[zbo _ _ _ _ (.inl hj)];exact p7 j b hb
      .obtain ⟨q,rfl⟩:∃ q,j=c+m+q:=⟨j-(c+m),by omega⟩
       rw[List.getElem?_append_right (by omega),show c+m+q-tp.length=q by omega]at hb
       have hq:q<tn.length:=by
        rcases Nat.lt_or_ge q tn.length with h|h
        .exact h
        .rw [List.getElem?_eq_none h]at hb;cases hb
       rw[zcT _ _ _ _ (by simpa using hq) (by omega),List.getElem?_map,hb];rfl
   .have hok:zcZ (c+m+tn.length) bb=true:=by
     unfold zcZ
     rw[Bool.and_eq_true]
     exact⟨Nat.ble_eq_true_of_le (by omega),Nat.ble_eq_true_of_le hbb⟩
    obtain⟨z,w',hr,g',cur,f1,f2,rfl,f4,f5,f6,f7⟩:=zdV (ty:=ty) hi ht hz1 hzk hok hs (some ⟨g.b,0,none⟩) (olds:=tp.map u8V) (sCap:=g.C) (by simp[p5])
     (run_firstCells_some w.drew i.size (c+m) ⟨g.b,0,none⟩ (c+m) g.C _ (by rw[hk];simp[p5]) (fun j u hu=>by
      obtain⟨b,hb,rfl⟩:=zEn hu
      rw[zC,Nat.zero_add,cell_of_row w.drew g.b j vs e mk p1];exact p7 j b hb)) (by omega)
    rw[Nat.mul_one]at f6 f7
    have hbr:=zea (γ:=upd γ h.nx (some g')) (id:=h.nx) (c:=n) (zc _ _ _) f2 (hm1.mono (hγ g')) (by omega)
    rw[tot]at hbr
    refine⟨_,w',hr,?_⟩
    have key:=rk.born (o:=.br e fz (zeP p l)) f1 hbr ⟨g',cur,(0,0),tp++tn,zc _ _ _,f5,f2,f6,hcat.mono (hγ g'),by rw[List.length_append];omega,p10 _ _,fun j b hb=>?_⟩
    .exact key
    .have hj:j<c+m+tn.length:=by
      rcases Nat.lt_or_ge j (tp++tn).length with h|h
      .rw [List.length_append]at h;omega
      .rw [List.getElem?_eq_none h]at hb;cases hb
     have:=congrArg (fun l:List Value=>l[j]?) f7
     simp only[List.getElem?_take_of_lt hj,Array.getElem?_toList]at this
     rw[this,<-List.map_append,List.getElem?_map,hb];rfl
  .cases hv
 .cases hv
theorem zg2(hT:TyOk S)(hG:yC S C)(r:Rel C γ h w){e bb t tx ty:Nat}{i:TypeInfo}(hi:El S e 1 bb i)(hbb:bb<=65536)(hz:okZ S e 1=true)(ht:S.P.underlying t=some (.slice e))(hk:(∃ e',S.P.underlying tx=some (.slice e'))\/S.P.underlying tx=some .string){x y v:BV}
 (hv:zn5 S h e x (zmk h y)=some (v,h')) {u z:Value} (hx:zf γ x u) (hy:zf γ y z):∃ q w',(Builtin.append_ #[t,tx] ty #[u,z]).run S.P w=.ok q w'/\Did C γ h v h' q w':=by
 unfold zn5 at hv
 split at hv
 .rename_i l hl
  cases hx
  obtain⟨tn,h1,h2⟩:=zfI r hl hy
  have hs:=h2.src (P:=S.P) hk
  split at hv
  .rename_i n qs hb hlen
   cases hv
   rw[Bool.and_eq_true]at hb
   have hm0:=zec hG r hb.1 h1
   have hmost:=zei hG r hb.2 h1
   obtain⟨zv,hz1,hzk,_⟩:=zeX hT hi hz
   obtain⟨mm,hm1,hm2⟩:=zag h1
   rw[hlen]at hm1 hm2
   dsimp only at hm1 hm2
   have hok:zcZ (0+tn.length) bb=true:=by
    unfold zcZ
    rw[Bool.and_eq_true]
    exact⟨Nat.ble_eq_true_of_le (by omega),Nat.ble_eq_true_of_le hbb⟩
   obtain⟨z',w',hr,g',cur,f1,f2,rfl,f4,f5,f6,f7⟩:=zdV (ty:=ty) hi ht hz1 hzk hok hs none (olds:=[]) (by simp) (by simp[Builtin.firstCells]) (sCap:=0) (by omega)
   rw[Nat.mul_one]at f6 f7
   rw[Nat.zero_add]at f4 f7
   rw[List.nil_append]at f7
   have hγ:GLe γ (upd γ h.nx (some g')):=zd8 (r.us h.nx (Nat.le_refl _)) g'
   have hbr:=zea (γ:=upd γ h.nx (some g')) (id:=h.nx) (c:=n) (zc _ _ _) f2 (hm1.mono hγ) (by omega)
   rw[<-hm2]at hbr
   refine⟨_,w',hr,?_⟩
   rw[Nat.zero_add]
   refine r.born f1 hbr ⟨g',cur,(0,0),tn,zc _ _ _,f5,f2,f6,h1.mono hγ,by omega,rfl,fun j b hb=>?_⟩
   have hj:j<tn.length:=by
    rcases Nat.lt_or_ge j tn.length with h|h
    .exact h
    .rw [List.getElem?_eq_none h]at hb;cases hb
   have:=congrArg (fun l:List Value=>l[j]?) f7
   simp only[List.getElem?_take_of_lt hj,Array.getElem?_toList]at this
   rw[this,List.getElem?_map,hb];rfl
  .cases hv
 .rename_i id n l hl
  obtain⟨tn,h1,h2⟩:=zfI r hl hy
  cases hx with|sg _ _ _ _ g o hg hk1 h0 ho hc=>
  have ho0:o=0:=by omega
  have key:=zg3 (ty:=ty) hT hG r hi hbb hz ht hv (h2.src (P:=S.P) hk) h1 hg (m:=0) zH.nil (by omega)
  rw[Nat.add_zero]at key
  rw[ho0,Nat.sub_zero]
  exact key
 .rename_i id c qs l hl
  obtain⟨tn,h1,h2⟩:=zfI r hl hy
  cases hx with|sx _ _ _ n g hg hk1 hl' hc=>
  exact zg3 hT hG r hi hbb hz ht hv (h2.src hk) h1 hg hl' hc
 .cases hv
theorem zn6(hT:TyOk S)(hG:yC S C)(r:Rel C γ h w){t tx ty:Nat}{x y v:BV}(hv:zrT S h t tx x y=some (v,h')){u z:Value}(hx:zf γ x u)(hy:zf γ y z):
 ∃ q w',(Builtin.append_ #[t,tx] ty #[u,z]).run S.P w=.ok q w'/\Did C γ h v h' q w':=by
 unfold zrT at hv
 split at hv
 .cases hv
 .rename_i e he
  have ht:=zaR hT he
  split at hv
  .rename_i bb h8 hsz hb hz
   obtain⟨i,hi⟩:=zuR hT hsz hb
   split at hv
   .rename_i hbb hu
    exact zg2 hT hG r hi (Nat.le_of_ble_eq_true hbb) hz ht (.inl ⟨_,zB hT hu⟩) hv hx hy
   .rename_i hbb hu
    exact zg2 hT hG r hi (Nat.le_of_ble_eq_true hbb) hz ht (.inr (zB hT hu)) hv hx hy
   .cases hv
  .cases hv
end Go.Bm
/-! Operations that change memory, on. -/
namespace Go.Bm
open Go Go.RowKit
variable {S:zd}{γ γ':Nat->Option G}{C:Ctx}{h h':Hp}{w w':World}{σ:Tr BV}{a:Act}{P:Program}
theorem zsi{off:Nat}{l:List BV}{ob ob':Ob}(h:za9 off (.c l) ob=some ob'){ns:List Value}(hn:zm γ l ns):∀ u ∈ ns,u.oneCell'=true:=by
 cases ob <;> (try (cases h;done))
 case c e m tr=>
  simp only[za9]at h
  split at h
  .rename_i hb;rw[Bool.and_eq_true]at hb;exact zow hn hb.1
  .cases h
 case bs e fz m c=>
  cases fz with
  | succ fz=>cases h
  | zero=>
   simp only[za9,zfh,Nat.beq_refl]at h
   split at h
   .rename_i d hp
    obtain⟨_,p2⟩:=zbq hp hn
    rw[p2];exact zaE _ _
   .cases h
theorem zxV{n:Nat}{zv:Value}:zm γ (rep n (cvl zv.cells.toList) []) (Builtin.zeroCells zv.cells n).toList:=by
 rw[zmI]
 exact zjY (by rw[zc9,Array.length_toList])
theorem zwy{t e ty:Nat}(ht:P.underlying t=some (.slice e)){zv:Value}(hz:∀ w,(zeroValue e).run P w=.ok zv w){b off n c:Nat}(hc:∀ j,j<(Builtin.zeroCells zv.cells n).toList.length->(w.cell? ⟨b,off+j,none⟩).isSome=true)
 (hf:∀ j,j<(Builtin.zeroCells zv.cells n).toList.length->w.frozen? ⟨b,off+j,none⟩=false) (h1:∀ u ∈ (Builtin.zeroCells zv.cells n).toList,u.oneCell'=true):
 (Builtin.clear_ #[t] ty #[.slice (some ⟨b,off,none⟩) n c]).run P w=.ok (.tuple #[]) (w.setCells b off (Builtin.zeroCells zv.cells n).toList):=by
 have hst:=run_storeCells_cells (P:=P) b off (Builtin.zeroCells zv.cells n).toList 0 w (by simpa using hc) (by simpa using hf) h1
 simp only[Nat.add_zero]at hst
 cases n with
 | zero=>
  have:(Builtin.zeroCells zv.cells 0).toList=[]:=by simp[Builtin.zeroCells]
  rw[this]
  simp[Builtin.clear_,run_underlying ht,World.setCells]
 | succ n=>simp[Builtin.clear_,run_underlying ht,hz,hst]
theorem znI(hT:TyOk S)(r:Rel C γ h w){t e ty:Nat}(ht:S.P.underlying t=some (.slice e)){zl:List BV}(hz:zaL S e=some zl){id off n c:Nat}{g:G}(hg:γ id=some g){ob:Ob}(hp:za9 off (.c (rep n zl [])) (h.get id)=some ob):
 ∃ w',(Builtin.clear_ #[t] ty #[.slice (some ⟨g.b,off,none⟩) n c]).run S.P w=.ok (.tuple #[]) w'/\Rel C γ (h.set id ob) w':=by
 obtain⟨zv,hzv,rfl,_⟩:=ye hT hz
 have hrel:=zxV (γ:=γ) (n:=n) (zv:=zv)
 have h1:=zsi hp hrel
 obtain⟨c1,c2,c3⟩:=zdO r hg hp (k:=1) (n:=(Builtin.zeroCells zv.cells n).toList.length) ⟨by rw[Nat.mul_one],h1,hrel⟩ (fun _=>rfl)
 exact⟨_,zwy ht hzv c1 c2 h1,c3⟩
theorem zpc(hT:TyOk S)(r:Rel C γ h w){t ty:Nat}{x v:BV}(hv:zti S h t x=some (v,h')){u:Value}(hx:zf γ x u):
 ∃ q w',(Builtin.clear_ #[t] ty #[u]).run S.P w=.ok q w'/\Did C γ h v h' q w':=by
 unfold zti at hv
 split at hv
 .rename_i e he
  have ht:=zaR hT he
  split at hv
  .rename_i zl hz
   split at hv
   .split at hv
    .rename_i ob hp
     cases hv
     cases hx with|sl _ _ _ _ g hg hc=>
     obtain⟨w',h1,h2⟩:=znI hT r ht hz hg hp
     exact⟨_,w',h1,γ,Ext.refl _ _,Nat.le_refl _,.t _ _ .nil,h2⟩
    .cases hv
   .split at hv
    .rename_i ob hp
     cases hv
     cases hx with|sg _ _ _ _ g o hg hk h0 ho hc=>
     obtain⟨w',h1,h2⟩:=znI hT r ht hz hg hp
     exact⟨_,w',h1,γ,Ext.refl _ _,Nat.le_refl _,.t _ _ .nil,h2⟩
    .cases hv
   .cases hv
  .cases hv
 .cases hv
theorem zjo(w:World)(b n:Nat)(hn:n≠0){vs:Array Value}{e:Nat}{m:Nat×Nat}(h:w.heap[b]?=some (.cells vs e m)):
 (w.freeze ⟨b,0,none⟩ n).heap[b]?=some (.cells vs e (if m.1==m.2 then(0,0+n) else(min m.1 0,max m.2 (0+n)))):=by
 unfold World.freeze
 simp only[if_neg hn,Array.getElem?_modify,if_true,h,Option.map_some]
theorem zhC(w:World)(b n i:Nat)(hi:i≠b):(w.freeze ⟨b,0,none⟩ n).heap[i]?=w.heap[i]?:=by
 unfold World.freeze
 split
 .rfl
 .simp only[Array.getElem?_modify,if_neg (Ne.symm hi)]
theorem zjn(w:World)(a:Addr)(n:Nat):(w.freeze a n).os=w.os/\(w.freeze a n).tape=w.tape/\(w.freeze a n).output=w.output/\(w.freeze a n).heap.size=w.heap.size:=by
 unfold World.freeze
 split
 .exact ⟨rfl,rfl,rfl,rfl⟩
 .exact ⟨rfl,rfl,rfl,by simp⟩
theorem zm2(hT:TyOk S){t e:Nat}(h:zvF S t=some e):S.P.underlying t=some (.pointer e)/\S.P.cellsOf e=1:=by
 unfold zvF at h
 split at h
 .rename_i e' hu
  split at h
  .rename_i hs
   cases h
   refine⟨zB hT hu,?_⟩
   unfold sz at hs
   split at hs
   .rename_i i hi
    have h2:=Option.some.inj hs
    simp[Program.cellsOf,hT.ty _ _ hi,h2]
   .cases hs
  .cases h
 .cases h
theorem zvj(hT:TyOk S)(r:Rel C γ h w){t it ty:Nat}{xs:List BV}{v:BV}(hv:usV h (zvF S t) xs=some (v,h')){us:List Value}(hx:zm γ xs us):
 ∃ q w',(Builtin.unsafeString_ #[t,it] ty us.toArray).run S.P w=.ok q w'/\Did C γ h v h' q w':=by
 unfold usV at hv
 split at hv
 .cases hv
  obtain⟨u,z,rfl,h1,h2⟩:=hx.two_inv
  cases h1;cases h2
  exact⟨_,_,Lib.run_unsafeString_none w t it ty none,Did.same r (by have:=zf.s (γ:=γ) 0 0 (by simp);exact this)⟩
 .rename_i id n
  obtain⟨u,z,rfl,h1,h2⟩:=hx.two_inv
  cases h1 with|p _ _ g hg=>
  cases h2
  split at hv
  .rename_i e fz m c e' ho hpu
   obtain⟨hp1,hp2⟩:=zm2 hT hpu
   split at hv
   .rename_i n hb
    cases hv
    rw[Bool.and_eq_true,Bool.and_eq_true,Bool.and_eq_true]at hb
    have he:=Nat.eq_of_beq_eq_true hb.1
    subst he
    have hn1:n+1<=1073741824:=Nat.le_of_ble_eq_true hb.2.1
    have hnm:n+1<=m:=Nat.le_of_ble_eq_true hb.2.2.1
    have hfz:fz<=1:=Nat.le_of_ble_eq_true hb.2.2.2
    obtain⟨vs,mk,h1,h2,h3,h4,h5,h6,h7⟩:=OM.bObj r ho hg
    have hl:(dec (n+1) (low c (n+1))).length=n+1:=zi _ _
    have hrun:=Lib.run_unsafeString_row (P:=S.P) w t it ty e hp1 hp2 g.b vs.size (by simp[World.shape?,h1]) (dec (n+1) (low c (n+1))) (by intro h0;rw[h0]at hl;cases hl) (by rw[hl];omega) (by rw[hl];omega) (fun j x hx=>by
     have hj:j<n+1:=by
      rcases Nat.lt_or_ge j (n+1)with h|h
      .exact h
      .rw [List.getElem?_eq_none (by rw[hl];exact h)]at hx;cases hx
     rw[yx _ _ _ hj]at hx
     cases hx
     rw[zC,Nat.zero_add,h7 j (by omega),zaw,zdd _ _ _ hj]
     rfl)
    rw[hl]at hrun
    obtain⟨f1,f2,f3,f4⟩:=zjn w ⟨g.b,0,none⟩ (n+1)
    refine⟨_,_,hrun,γ,Ext.refl _ _,Nat.le_refl _,.s (n+1) (low c (n+1)) (zel _ _),r.write hg (by rw[ho];simp) f1 f2 f3 f4 (fun b hb=>zhC w g.b (n+1) b hb) ⟨g,vs,_,hg,zjo w g.b (n+1) (by omega) h1,h2,h3,h4,?_,h6⟩⟩
    have hmk:mk.1=0/\mk.2<=m:=by
     match fz,h5,hfz with
     | 0,h5,_=>have h5:mk=(0,0):=h5;subst h5;exact⟨rfl,Nat.zero_le _⟩
     | 1,h5,_=>exact h5
    show(if mk.1==mk.2 then(0,0+(n+1)) else(min mk.1 0,max mk.2 (0+(n+1)))).1=0/\(if mk.1==mk.2 then(0,0+(n+1)) else(min mk.1 0,max mk.2 (0+(n+1)))).2<=m
    split
    .exact ⟨rfl,by dsimp only;omega⟩
    .refine ⟨by dsimp only;omega,?_⟩
     dsimp only;omega
   .cases hv
  .cases hv
 .cases hv
theorem zsk{x:BV}{c:Nat}{qs:List Nat}(h:zx6 x=some (c,qs)){u:Value}(hx:zf γ x u):∃ m,zH γ qs m/\u=.int .i64 (.ofNat (c+m)):=by
 unfold zx6 at h
 split at h
 .cases h;cases hx;exact⟨0,.nil,rfl⟩
 .cases h;cases hx with|ia _ _ _ x y h1 h2 hr=>
  refine⟨x,h1,?_⟩
  rw[h2.nil_inv]
  congr 1
 .cases h
theorem zpM(hT:TyOk S)(hG:yC S C)(r:Rel C γ h w){t it ty:Nat}{xs:List BV}{v:BV}(hv:zxs S h (zvF S t) xs=some (v,h')){us:List Value}(hx:zm γ xs us):
 ∃ q w',(Builtin.unsafeString_ #[t,it] ty us.toArray).run S.P w=.ok q w'/\Did C γ h v h' q w':=by
 unfold zxs at hv
 split at hv
 .rename_i id y
  obtain⟨u,z,rfl,h1,h2⟩:=hx.two_inv
  cases h1 with|p _ _ g hg=>
  split at hv
  .rename_i e fz l e' c qs ho hpu hpos
   obtain⟨hp1,hp2⟩:=zm2 hT hpu
   obtain⟨m,hm,rfl⟩:=zsk hpos h2
   split at hv
   .rename_i p hb hcut
    split at hv
    .rename_i hb2
     cases hv
     rw[Bool.and_eq_true]at hb hb2
     have he:=Nat.eq_of_beq_eq_true hb.1
     subst he
     have hfz:fz<=1:=Nat.le_of_ble_eq_true hb.2
     obtain⟨vs,mk,tt,k1,k2,k3,k4,k5,k6,k7,k8⟩:=OM.rObj r ho hg
     obtain⟨r',hcut⟩:=ziI hcut
     obtain⟨t1,t2,q1,q2,rfl,q4⟩:=zbB hcut k4 hm
     have s1:=zec hG r hb2.1 q1
     have s2:=zei hG r hb2.2 q1
     have hle:t1.length<=vs.size:=by rw[List.length_append]at k5;omega
     have hrun:=Lib.run_unsafeString_row (P:=S.P) w t it ty e hp1 hp2 g.b vs.size (by simp[World.shape?,k1]) t1 (by intro h0;rw[h0]at s1;simp at s1) (by omega) (by omega) (fun j x hx=>by
      have hj:j<t1.length:=by
       rcases Nat.lt_or_ge j t1.length with h|h
       .exact h
       .rw [List.getElem?_eq_none h]at hx;cases hx
      rw[zC,Nat.zero_add,k8 j x (by rw[List.getElem?_append_left hj];exact hx)]
      rfl)
     rw[<-q4]
     obtain⟨f1,f2,f3,f4⟩:=zjn w ⟨g.b,0,none⟩ t1.length
     refine⟨_,_,hrun,γ,Ext.refl _ _,Nat.le_refl _,zeZ q1,r.write hg (by rw[ho];simp) f1 f2 f3 f4 (fun b hb=>zhC w g.b t1.length b hb) ⟨g,vs,_,t1++t2,hg,zjo w g.b t1.length (by omega) k1,k2,k3,k4,k5,?_,k7⟩⟩
     have hmk:mk.1=0/\mk.2<=(t1++t2).length:=by
      match fz,k6,hfz with
      | 0,k6,_=>have k6:mk=(0,0):=k6;subst k6;exact⟨rfl,Nat.zero_le _⟩
      | 1,k6,_=>exact k6
     have hl2:t1.length<=(t1++t2).length:=by rw[List.length_append];omega
     show(if mk.1==mk.2 then(0,0+t1.length) else(min mk.1 0,max mk.2 (0+t1.length))).1=0/\(if mk.1==mk.2 then(0,0+t1.length) else(min mk.1 0,max mk.2 (0+t1.length))).2<=(t1++t2).length
     split
     .exact ⟨rfl,by dsimp only;omega⟩
     .refine ⟨by dsimp only;omega,?_⟩
      dsimp only;omega
    .cases hv
   .cases hv
  .cases hv
 .cases hv
theorem zk3{x:OVH}{f:Unit->OVH}{v:BV×Hp}(h:orE x f=some v):x=some v\/f ()=some v:=by
 cases x with
 | none=>exact .inr h
 | some y=>exact .inl h
theorem zdX(hT:TyOk S)(hG:yC S C)(r:Rel C γ h w)(hs:yF γ σ a.tmps)(o:Oper){v:BV}(hv:evE S h o.op σ=some (v,h')):
 ∃ n z w',(execOp a.eval o).run S.P w=.ok n w'/\((n=.skip/\z=undef)\/n=.value z)/\Did C γ h v h' z w':=by
 obtain⟨dst,op,type,pos,after,guard⟩:=o
 dsimp only at hv
 have mu:∀ {t m k x},zzF t m k x S h σ=some (v,h')->∃ w',(Instr.mapUpdate t (a.eval m) (a.eval k) (a.eval x)).run S.P w=.ok () w'/\Did C γ h v h' undef w':=by
  intro t m k x hv
  obtain⟨rfl,w',h1,h2,h3⟩:=zho hT r hv (zo hs m) (zo hs k) (zo hs x)
  exact⟨w',h1,γ,Ext.refl _ _,by omega,.t _ _ .nil,h3⟩
 cases op <;> simp only[evE]at hv <;> (try (cases hv;done))
 case store t x y=>
  unfold zs7 done at hv
  split at hv
  .rename_i h1 hst
   cases hv
   obtain⟨w',h2,h3,h4⟩:=zg5 hT r hst (zo hs x) (zo hs y)
   refine⟨.skip,undef,w',?_,.inl ⟨rfl,rfl⟩,γ,Ext.refl _ _,by omega,.t _ _ .nil,h4⟩
   simp only[execOp,Sem.run_bind,h2,Result.andThen_ok];rfl
  .cases hv
 case mapUpdate t m k x=>
  obtain⟨w',h1,h2⟩:=mu hv
  refine⟨.skip,undef,w',?_,.inl ⟨rfl,rfl⟩,h2⟩
  simp only[execOp,Sem.run_bind,h1,Result.andThen_ok];rfl
 case insert t m k x=>
  obtain⟨w',h1,h2⟩:=mu hv
  refine⟨.skip,undef,w',?_,.inl ⟨rfl,rfl⟩,h2⟩
  simp only[execOp,Sem.run_bind,h1,Result.andThen_ok];rfl
 case call c=>
  obtain⟨callee,args,ts⟩:=c
  cases callee with
  | value f=>cases hv
  | invoke f m=>cases hv
  | builtin b=>
   replace hv:zlT S h b ts (maps σ args.toList)=some (v,h'):=hv
   have hxs:=zci hs args.toList
   have hmap:(args.map a.eval)=(args.toList.map a.eval).toArray:=by rw[<-Array.toList_map]
   generalize hus:args.toList.map a.eval=us at hxs hmap
   have fin:∀ (z:Value) (w':World),(∀ cs,(builtin b ts type cs us.toArray).run S.P w=.ok (.value z) w')->Did C γ h v h' z w'->∃ n z w',(execOp a.eval ⟨dst,.call ⟨.builtin b,args,ts⟩,type,pos,after,guard⟩).run S.P w=.ok n w'/\((n=.skip/\z=undef)\/n=.value z)/\Did C γ h v h' z w':=by
    intro z w' h1 h2
    refine⟨.value z,z,w',?_,.inr rfl,h2⟩
    simp only[execOp,resolve,Sem.run_bind,Sem.run_pure,Result.andThen_ok,invoke,hmap,h1]
   unfold zlT at hv
   split at hv
   .split at hv
    .rename_i t tx x y hts hxx
     rw[hxx]at hxs
     obtain⟨u,z,rfl,h1,h2⟩:=hxs.two_inv
     have hts:ts=#[t,tx]:=by apply Array.ext';rw[hts]
     subst hts
     have key:∃ q w',(Builtin.append_ #[t,tx] type #[u,z]).run S.P w=.ok q w'/\Did C γ h v h' q w':=by
      rcases zk3 hv with hv|hv
      .exact ztv (ty:=type) hT r hv h1 h2
      .exact zn6 (ty:=type) hT hG r hv h1 h2
     obtain⟨q,w',h3,h4⟩:=key
     refine fin q w' (fun cs=>?_) h4
     simp only[builtin,Sem.run_bind,h3,Result.andThen_ok];rfl
    .cases hv
   .have cp:∀ {t t':Nat} {u z:Value} (ad:Addr) (l c:Nat),u=.slice (some ad) l c->zf γ .ns z->us=[u,z]->ts.toList=[t,t']->∀ k,zd1 S t=some k->v=zb 0->h'=h->
     ∃ n z w',(execOp a.eval ⟨dst,.call ⟨.builtin .copy,args,ts⟩,type,pos,after,guard⟩).run S.P w=.ok n w'/\((n=.skip/\z=undef)\/n=.value z)/\Did C γ h v h' z w':=by
     intro t t' u z ad l c hu hz hus hts k hk hv' hh'
     have hts:ts=#[t,t']:=by apply Array.ext';rw[hts]
     subst hts hus hu hv' hh'
     cases hz
     obtain⟨e,he,hsz⟩:=zav hT hk
     have hi:((S.P.info? e).map (·.size)).isSome=true:=by
      unfold sz at hsz
      split at hsz
      .rename_i i hi;rw[hT.ty _ _ hi];rfl
      .cases hsz
     refine fin (goInt 0) w (fun cs=>?_) (Did.same r (.i _ _))
     simp only[builtin,Sem.run_bind,run_copy_nil S.P w t t' type e ad l c he hi,Result.andThen_ok];rfl
    split at hv
    .rename_i t t' id off l c hts hxx
     rw[hxx]at hxs
     obtain⟨u,z,rfl,h1,h2⟩:=hxs.two_inv
     cases h1 with|sl _ _ _ _ g hg hc=>
     split at hv
     .rename_i k hk
      cases hv
      exact cp _ _ _ rfl h2 rfl hts k hk rfl rfl
     .cases hv
    .rename_i t t' k id off l hts hxx
     rw[hxx]at hxs
     obtain⟨u,z,rfl,h1,h2⟩:=hxs.two_inv
     cases h1 with|sg _ _ _ _ g o hg hk h0 ho hc=>
     split at hv
     .rename_i k hk
      cases hv
      exact cp _ _ _ rfl h2 rfl hts k hk rfl rfl
     .cases hv
    .cases hv
   .split at hv
    .rename_i t x hts hxx
     rw[hxx]at hxs
     obtain⟨u,rfl,h1⟩:=hxs.one_inv
     have hts:ts=#[t]:=by apply Array.ext';rw[hts]
     subst hts
     obtain⟨q,w',h3,h4⟩:=zpc (ty:=type) hT r hv h1
     refine fin q w' (fun cs=>?_) h4
     simp only[builtin,Sem.run_bind,h3,Result.andThen_ok];rfl
    .cases hv
   .split at hv
    .rename_i t it hts
     have hts:ts=#[t,it]:=by apply Array.ext';rw[hts]
     subst hts
     have key:∃ q w',(Builtin.unsafeString_ #[t,it] type us.toArray).run S.P w=.ok q w'/\Did C γ h v h' q w':=by
      rcases zk3 hv with hv|hv
      .exact zvj (it:=it) (ty:=type) hT r hv hxs
      .exact zpM (it:=it) (ty:=type) hT hG r hv hxs
     obtain⟨q,w',h3,h4⟩:=key
     refine fin q w' (fun cs=>?_) h4
     simp only[builtin,Sem.run_bind,h3,Result.andThen_ok];rfl
    .cases hv
   .cases hv
end Go.Bm
/-! Frames of functions and of rounds: the wide fence, at a loop's record or at none. -/
namespace Go.Bm
open Go Go.RowKit
variable {P:Program}{a:Act}{w w':World}{r:Option Nat}{Q:Exit->Act->World->Prop}
abbrev FW(r:Option Nat):Fence:={ fn:=fun _=>True,depth:=none,alive:=false,round:=r }
def zR(P:Program)(f:FuncId):Bool:=
 match P.funcs[f]? with
 | some fn=>fn.body.isSome&&!(fn.name== "runtime.NumGoroutine")
 | none=>false
theorem ym{f:FuncId}(h:zR P f=true)(vs:Array Value)(w:World):(callFunc f vs).run P w=.ok (.enter f vs) w:=by
 unfold zR at h
 cases hf:P.funcs[f]? with
 | none=>rw[hf]at h;cases h
 | some fn=>
  rw[hf]at h
  dsimp only at h
  rw[Bool.and_eq_true,Bool.not_eq_true']at h
  have h2:fn.body.isNone=false:=by cases hb:fn.body with|none=>rw[hb]at h;cases h.1|some _=>rfl
  have h3:¬ (fn.name= "runtime.NumGoroutine"):=by have:=h.2;simpa using this
  have h4:¬ (fn.body=none):=by intro e;rw[e]at h2;cases h2
  simp[callFunc,hf,h3,h4]
theorem zbs{n:Nat}{f:FuncId}{args:Array Value}{R:Ending->World->Prop}:CallsIn (FW r) n P f args w R↔Calls P f args w R:=(callsIn_wide (n:=n) (P:=P) (f:=f) (args:=args) (w:=w) (R:=R))
theorem zit{ρ:Operand->Value}{o:Oper}{x:Next}(h:(execOp ρ o).run P w=.ok x w')(hx:∀ d,x≠.defer d):∀ c,o.op≠.defer c:=by
 intro c hc
 obtain⟨dst,op,type,pos,after,guard⟩:=o
 dsimp only at hc
 subst hc
 simp only[execOp,Sem.run_bind]at h
 cases hr:(resolve ρ c type).run P w with
 | ok d w1=>rw[hr]at h;simp[Sem.run_pure]at h;exact hx d h.1.symm
 | halt _ _=>rw[hr]at h;cases h
theorem zcy{o:Oper}{x:Next}{next:Act->World->Prop}(h:(execOp a.eval o).run P w=.ok x w')(hx:∀ d,x≠.defer d)(k:o.uponIn (FW r) 0 P a next Q (.ok x w')):o.wpIn (FW r) 0 P a w next Q:=by
 refine⟨fun _ _=>trivial,?_⟩
 rw[Oper.semAt_eq _ _ _ (zit h hx),h]
 exact k
theorem yk{o:Oper}{v:Value}{next:Act->World->Prop}(h:(execOp a.eval o).run P w=.ok (.value v) w')(k:next (a.put o.dst v) w'):o.wpIn (FW r) 0 P a w next Q:=zcy h (fun _ e=>by cases e) k
theorem zbW{o:Oper}{next:Act->World->Prop}(h:(execOp a.eval o).run P w=.ok .skip w')(k:next (a.put o.dst undef) w'):o.wpIn (FW r) 0 P a w next Q:=zcy h (fun _ e=>by cases e) k
theorem zfA{o:Oper}{f:FuncId}{args:Array Value}{next:Act->World->Prop}(h:(execOp a.eval o).run P w=.ok (.enter f args) w')
 (k:Calls P f args w' fun e w''=>∃ v,e=.returned v/\next (a.put o.dst v) w''):o.wpIn (FW r) 0 P a w next Q:=
 zcy h (fun _ e=>by cases e) ⟨fun h=>(by cases h),zbs.2 (k.mono fun e w'' ⟨v,he,hn⟩=>by subst he;exact hn)⟩
section
variable {b:Frame}{k:List Item}{cs:List Frame}
theorem zY{c:Code}:step P (lone (b.atR a (.code (.scope c)::k)) cs w)=.next (lone (b.atR a (.code c::.inScope c::k)) cs w):=
 step_lone_go (by simp[stepG,stepG.exec,Frame.atR])
theorem zdC{c:Code}:step P (lone (b.atR a (.inScope c::k)) cs w)=.next (lone (b.atR a k) cs w):=
 step_lone_go (by simp[stepG,stepG.exec,Frame.atR])
end
theorem zaa{F:Fence}{n:Nat}{c:Code}(h:c.wpIn F n P (Exit.noGoto Q) a w):(Code.scope c).wpIn F n P Q a w:=by
 intro b k cs hro hb hr
 have h0:(lone (b.atR a (.code (.scope c)::k)) cs w).fenced P F:=fenced_calm hb hr rfl
 obtain⟨e,a₁,w₁,hq,harr⟩:=h b (.inScope c::k) cs hro hb hr
 cases e with
 | normal=>exact⟨.normal,a₁,w₁,hq,.head h0 zY (StepsIn.trans harr (.one (fenced_calm hb hr rfl) zdC))⟩
 | exit id=>
  have hx:exitTo id (.inScope c::k)=exitTo id k:=by simp[exitTo]
  exact⟨.exit id,a₁,w₁,hq,fun k' hk=>.head h0 zY (harr.1 k' (by rw[hx];exact hk)),
   fun hr' hk=>let ⟨k₁,h1,h2⟩:=harr.2 hr' (by rw[hx];exact hk);⟨k₁,h1,.head h0 zY h2⟩⟩
 | goto l=>exact hq.elim
 | ret=>exact⟨_,a₁,w₁,hq,.of_steps (.one h0 zY) harr⟩
 | panic ch=>exact⟨_,a₁,w₁,hq,.of_steps (.one h0 zY) harr⟩
 | outgrown=>exact⟨_,a₁,w₁,hq,.of_steps (.one h0 zY) harr⟩
theorem zbu{F:Fence}{n:Nat}{c:Code}(I:Nat->Act->World->Prop)
 (round:∀ n' a w,I n' a w->c.wpIn F n P (Exit.then (fun a' w'=>∃ m,m<n'/\I m a' w') Q) a w) (n₀:Nat) (h₀:I n₀ a w):(Code.loop c).wpIn F n P Q a w:=by
 intro b k cs hro hb hr
 have key:∀ j a w,I j a w->∃ e a' w',Q e a' w'/\ArrivesIn (Machine.fenced P F) P (lone (b.atR a (.code c::.inLoop c::k)) cs w) b k cs e a' w':=by
  intro j
  induction j using Nat.strongRecOn with
  | _ j ih=>
   intro a w hI
   obtain⟨e,a₁,w₁,hq,harr⟩:=round j a w hI b (.inLoop c::k) cs hro hb hr
   cases e with
   | normal=>
    obtain⟨m,hlt,hI₁⟩:=hq
    obtain⟨e₂,a₂,w₂,hq₂,harr₂⟩:=ih m hlt a₁ w₁ hI₁
    exact⟨e₂,a₂,w₂,hq₂,.of_steps (StepsIn.trans harr (.one (fenced_calm hb hr rfl) stepR_inLoop)) harr₂⟩
   | exit id=>exact⟨_,a₁,w₁,hq,.pass (x:=.inLoop c) rfl (fun _ _=>.inl (by simp)) harr⟩
   | goto l=>exact⟨_,a₁,w₁,hq,.pass (x:=.inLoop c) rfl (fun _ _=>.inl (by simp)) harr⟩
   | ret=>exact⟨_,a₁,w₁,hq,.pass (x:=.inLoop c) rfl (fun _ _=>.inl (by simp)) harr⟩
   | panic ch=>exact⟨_,a₁,w₁,hq,.pass (x:=.inLoop c) rfl (fun _ _=>.inl (by simp)) harr⟩
   | outgrown=>exact⟨_,a₁,w₁,hq,.pass (x:=.inLoop c) rfl (fun _ _=>.inl (by simp)) harr⟩
 obtain⟨e,a',w',hq,harr⟩:=key n₀ a w h₀
 exact⟨e,a',w',hq,.of_steps (.one (fenced_calm hb hr rfl) stepR_loop) harr⟩
theorem zae(a:Act)(dst:Option Nat)(v:Value):(a.put dst v).tmps.size=a.tmps.size:=by
 cases dst <;> simp[Act.put]
theorem yB(a:Act)(dst:Option Nat)(v:Value):(a.put dst v).defers=a.defers:=by
 cases dst <;> rfl
end Go.Bm
/-! A range over a function: the statement, a round, a call of yield. -/
namespace Go.Bm
open Go Go.RowKit
variable {P:Program}{a a':Act}{w w' w2:World}
abbrev zb0(D:Nat):Deferred:={ target:=.collected D,args:=#[] }
theorem zbH{g:Operand}{ps:Array Tmp}{assign body:Code}{Q:Exit->Act->World->Prop}{gf:FuncId}{lb:Array Value}(hg:a.eval g=.func (.func gf) #[] lb)(eg:zR P gf=true)
 (h:∀ (fn:FuncId) (mkR:LoopState->Option Code->Loop),mkR=(fun st pe=>{ state:=st,pending:=pe,fn,tmps:=a.tmps,params:=ps,assign,body,defers:=w.heap.size })->
  Calls P gf (#[.func (.yield (w.heap.size+1)) #[] #[]]++lb) ((w.alloc (.deferred (some []))).alloc (.loop (mkR .ready none))) fun e W2=>(∃ v,e=.returned v)/\
   ((W2.heap[w.heap.size+1]?=some (.loop (mkR .ready none))/\Q .normal { a with defers:=zb0 w.heap.size::a.defers } (W2.putObj (w.heap.size+1) (.loop (mkR .exhausted none))))\/
    (∃ c,W2.heap[w.heap.size+1]?=some (.loop (mkR .done (some c)))/\c.wpIn (FW none) 0 P Q { a with defers:=zb0 w.heap.size::a.defers } (W2.putObj (w.heap.size+1) (.loop (mkR .exhausted (some c))))))):
 (Code.rangeFunc g ps assign body).wpIn (FW none) 0 P Q a w:=by
 refine wpIn_rangeFunc fun fn _=>?_
 obtain⟨mkR,hR⟩:∃ mkR:LoopState->Option Code->Loop,mkR=fun st pe=>{ state:=st,pending:=pe,fn,tmps:=a.tmps,params:=ps,assign,body,defers:=w.heap.size }:=⟨_,rfl⟩
 obtain⟨W1,hW1⟩:∃ W1,(w.alloc (.deferred (some []))).alloc (.loop (mkR .ready none))=W1:=⟨_,rfl⟩
 have hc:=h fn mkR hR
 rw[hW1]at hc
 refine⟨w.heap.size+1,[zb0 w.heap.size],W1,{ target:=.fn (.func gf) lb,args:=#[.func (.yield (w.heap.size+1)) #[] #[]] },W1,gf,
  #[.func (.yield (w.heap.size+1)) #[] #[]]++lb,W1,?_,?_,fun _ _=>trivial,?_,(fun h=>nomatch h),?_⟩
 .rw [<-hW1,hR];exact run_enterLoop_outer _ _ _ _ _
 .simp only[resolve,hg]
  simp[go_sem]
 .simp [invoke,go_sem,ym eg]
 .refine zbs.2 (hc.mono ?_)
  rintro e W2 ⟨⟨v,rfl⟩,⟨hl,hq⟩|⟨c,hl,hq⟩⟩
  .refine ⟨none,_,?_,hq⟩
   have:=run_endLoop (P:=P) hl (by rw[hR];simp)
   rw[hR]at this ⊢;exact this
  .refine ⟨some c,_,?_,hq⟩
   have:=run_endLoop (P:=P) hl (by rw[hR];simp)
   rw[hR]at this ⊢;exact this
def zhd(l:Nat)(r:Loop)(R:Option Code->World->Prop):Exit->Act->World->Prop
 | .normal,_,W=>W.heap[l]?=some (.loop { r with state:=.busy })/\R none W
 | .ret,_,W=>W.heap[l]?=some (.loop { r with state:=.busy })/\R (some .ret) W
 | .exit id,_,W=>W.heap[l]?=some (.loop { r with state:=.busy })/\R (some (.exit id)) W
 | _,_,_=>False
theorem zkQ{l:Nat}{r:Loop}{tm:Array Value}{W:World}{R:Option Code->World->Prop}(hr:r.state=.ready)
 (h:r.assign.wpIn (FW (some l)) 0 P (Exit.then (fun a1 W1=>W1.heap[l]?=some (.loop r)/\r.body.wpIn (FW (some l)) 0 P (zhd l r R) a1 (W1.putObj l (.loop { r with state:=.busy }))) (fun _ _ _=>False)) { tmps:=tm,defers:=[] } W):
 RoundIn (FW none) 0 P l r.fn tm r.assign r.body W fun e W'=>∃ (jump:Option Code) (W3:World),e=.returned (.bool jump.isNone)/\
  W'=W3.putObj l (.loop { r with state:=if jump.isNone then .ready else .done,pending:=jump })/\R jump W3:=by
 refine roundIn_of_wpIn (F:=FW none) trivial ?_
 refine wpIn_mono (F:=FW (some l)) h fun e a1 W1 he=>?_
 cases e with
 | normal=>
  obtain⟨hl,hb⟩:=he
  refine⟨_,run_beginRound hl hr,wpIn_mono (F:=FW (some l)) hb fun e2 a2 W2 h2=>?_⟩
  cases e2 with
  | normal=>exact⟨_,_,run_endRound none h2.1,none,W2,rfl,rfl,h2.2⟩
  | ret=>exact⟨_,_,run_endRound (some .ret) h2.1,some .ret,W2,rfl,rfl,h2.2⟩
  | exit id=>exact⟨_,_,run_endRound (some (.exit id)) h2.1,some (.exit id),W2,rfl,rfl,h2.2⟩
  | goto t=>exact h2.elim
  | panic ch=>exact h2.elim
  | outgrown=>exact h2.elim
 | exit id=>exact he
 | goto l=>exact he
 | ret=>exact he
 | panic ch=>exact he
 | outgrown=>exact he
theorem zgw{dst:Option Tmp}{fop:Operand}{args:Array Operand}{ts:Array TypeId}{type:TypeId}{pos:String}{after:Array Edge}{guard:Option (Nat×Bool)}{l:Nat}{r:Loop}{next:Act->World->Prop}{Q:Exit->Act->World->Prop}{rd:Option Nat}
 (hf:a.eval fop=.func (.yield l) #[] #[]) (hl:w.heap[l]?=some (.loop r)) (hn:args.size=r.params.size)
 (h:RoundIn (FW none) 0 P l r.fn ((r.params.zip (args.map a.eval)).foldl (fun tmps (t,a)=>tmps.setIfInBounds t a) r.tmps) r.assign r.body w fun e W'=>∃ v,e=.returned v/\next (a.put dst v) W'):
 (⟨dst,.call ⟨.value fop,args,ts⟩,type,pos,after,guard⟩:Oper).wpIn (FW rd) 0 P a w next Q:=by
 have hrun:(execOp a.eval ⟨dst,.call ⟨.value fop,args,ts⟩,type,pos,after,guard⟩).run P w=.ok (.round l r.fn ((r.params.zip (args.map a.eval)).foldl (fun tmps (t,a)=>tmps.setIfInBounds t a) r.tmps) r.assign r.body) w:=by
  simp only[execOp,resolve,hf,Deferred.ofValue,Sem.run_bind,Sem.run_pure,Result.andThen_ok,invoke]
  have:=run_yield (P:=P) (args:=args.map a.eval) hl (by simpa using hn)
  simpa using this
 refine zcy hrun (fun _ e=>by cases e) ⟨fun h=>(by cases h),h.mono fun e W' ⟨v,he,hv⟩=>?_⟩
 subst he
 exact hv
end Go.Bm
/-! What a plan that is checked says. -/
namespace Go.Bm
open Go
def Closed(ops:List Oper)(D:Nat->Bool):Prop:=∀ i o,D i=true->ops[i]?=some o->∀ e ∈ o.after.toList,zfk e=true->D e.on=true
def Aft(D:Nat->Bool)(o:Oper):Prop:=∀ e ∈ o.after.toList,zfk e=true->D e.on=true
def zd2(pre:List Pe):List Nat:=(pre.filter Pe.isEf).map Pe.j
structure zrB(ops:List Oper)(all pre:List Pe)(e:Pe)(o:Oper):Prop where
 new:∀ q ∈ pre,q.j≠e.j
 at_:ops[e.j]?=some o
 before:∀ x ∈ o.after.toList,zfk x=true->∃ q ∈ pre,q.j=x.on
 args:∀ t,(.tmp t ∈ o.op.operands.toList\/zlt ops o.guard=some t)->∀ j oj,ops[j]?=some oj->oj.dst=some t->(∀ D,Closed ops D->Aft D o->D j=true)\/(∀ D,Closed ops D->D e.j=false->D j=false)
 ef:∀ D,Closed ops D->Aft D o->e.isEf=true->∀ q ∈ pre,D q.j=true
 rd:∀ D,Closed ops D->Aft D o->∀ j c,e=.rd j c->zaf o.op=true\/c=(zd2 pre).length\/∃ x,(zd2 pre).reverse[c]?=some x/\D x=true
 md:∀ D,Closed ops D->Aft D o->∀ j,e=.md j->∀ q ∈ all,(q.isEf=true\/∃ j' c oj,q=.rd j' c/\ops[j']?=some oj/\zaf oj.op=false)->D q.j=true
theorem zd3(i x:Nat):(bit i).testBit x=true↔x=i:=by
 unfold bit
 rw[Nat.testBit_two_pow]
 simp[eq_comm]
theorem zg4{a b:Nat}(h:zrW a b=true){x:Nat}(hx:a.testBit x=true):b.testBit x=true:=by
 have h:=Nat.eq_of_beq_eq_true h
 have h2:(a||| b).testBit x=b.testBit x:=by show(Nat.lor a b).testBit x=_;rw[h]
 rw[Nat.testBit_or,hx,Bool.true_or]at h2
 exact h2.symm
theorem zaO(a b x:Nat):(Nat.lor a b).testBit x=(a.testBit x||b.testBit x):=Nat.testBit_or a b x
theorem zvO{anc:List (Nat×Nat)}{D:Nat->Bool}(hanc:∀ j x,D j=true->(look j anc).testBit x=true->D x=true):∀ (l:List Edge),(∀ e ∈ l,zfk e=true->D e.on=true)->∀ x,(zch anc l).testBit x=true->D x=true:=by
 intro l
 induction l with
 | nil=>intro _ x hx;simp[zch]at hx
 | cons e l ih=>
  intro h x hx
  unfold zch at hx
  split at hx
  .rename_i hb
   rw[zaO,zaO,Bool.or_eq_true,Bool.or_eq_true]at hx
   have he:=h e (by simp) hb
   rcases hx with(hx|hx)|hx
   .rw [(zd3 _ _).1 hx];exact he
   .exact hanc _ _ he hx
   .exact ih (fun e' h'=>h e' (by simp[h'])) x hx
  .exact ih (fun e' h'=>h e' (by simp[h'])) x hx
theorem zqo{anc:List (Nat×Nat)}:∀ (l:List Edge) (e:Edge),e ∈ l->zfk e=true->(zch anc l).testBit e.on=true
 | [],e,h,_=>by cases h
 | f::l,e,h,hb=>by
  unfold zch
  rcases List.mem_cons.1 h with rfl|h
  .rw [hb]
   simp only[zaO,(zd3 _ _).2 rfl,Bool.true_or]
  .have:=zqo (anc:=anc) l e h hb
   split
   .rw [zaO,this,Bool.or_true]
   .exact this
theorem zm3{t:Nat}:∀ (l:List Oper) (i j:Nat) (oj:Oper),l[j]?=some oj->oj.dst=some t->(zhg t i l).testBit (i+j)=true
 | [],_,_,_,h,_=>by cases h
 | o::l,i,j,oj,h,hd=>by
  cases j with
  | zero=>
   simp at h;subst h
   unfold zhg
   rw[hd]
   simp only[Nat.beq_refl,zaO]
   rw[(zd3 _ _).2 (by omega),Bool.true_or]
  | succ j=>
   have ih:=zm3 l (Nat.succ i) j oj (by simpa using h) hd
   rw[show i+(j+1)=Nat.succ i+j by omega]
   unfold zhg
   split
   .split
    .rw [zaO,ih,Bool.or_true]
    .exact ih
   .exact ih
theorem znp{j:Nat}:∀ {l:List Edge},zB3 j l=true->∃ e ∈ l,zfk e=true/\e.on=j
 | [],h=>by cases h
 | e::l,h=>by
  unfold zB3 at h
  rw[Bool.or_eq_true,Bool.and_eq_true]at h
  rcases h with h|h
  .exact ⟨e,by simp,h.1,Nat.eq_of_beq_eq_true h.2⟩
  .obtain ⟨e',h1,h2⟩:=znp h
   exact⟨e',by simp[h1],h2⟩
theorem znj{t j:Nat}:∀ {l:List Oper},zuu t j l=true->∀ o ∈ l,o.dst=some t->∃ e ∈ o.after.toList,zfk e=true/\e.on=j
 | [],_,o,h,_=>by cases h
 | x::l,h,o,ho,hd=>by
  unfold zuu at h
  rw[Bool.and_eq_true]at h
  rcases List.mem_cons.1 ho with rfl|ho
  .have h1:=h.1
   rw[hd]at h1
   simp only[Nat.beq_refl]at h1
   exact znp h1
  .exact znj h.2 o ho hd
theorem zrU{ops:List Oper}{m i t:Nat}(h:zmR ops m i t=true){j:Nat}{oj:Oper}(hj:ops[j]?=some oj)(hd:oj.dst=some t)(hp:(zhg t 0 ops).testBit j=true):m.testBit j=true\/∀ D,Closed ops D->D i=false->D j=false:=by
 unfold zmR at h
 rw[Bool.or_eq_true]at h
 rcases h with h|h
 .exact .inl (zg4 h hp)
 .refine .inr fun D hc hi=>?_
  obtain⟨e,h1,h2,rfl⟩:=znj h oj (List.mem_of_getElem? hj) hd
  cases hD:D j with
  | false=>rfl
  | true=>rw[hc j oj hD hj e h1 h2]at hi;cases hi
theorem zmS{ops:List Oper}{m j:Nat}:∀ {l:List Operand},zA7 ops m j l=true->∀ t,.tmp t ∈ l->zmR ops m j t=true
 | [],_,t,h=>by cases h
 | x::l,h,t,ht=>by
  unfold zA7 at h
  rw[Bool.and_eq_true]at h
  rcases List.mem_cons.1 ht with rfl|ht
  .exact h.1
  .exact zmS h.2 t ht
theorem zui{ops:List Oper}:∀ {l:List Pe} {q:Pe},q ∈ l->(q.isEf=true\/∃ j' c oj,q=.rd j' c/\ops[j']?=some oj/\zaf oj.op=false)->(zcw ops l).testBit q.j=true
 | [],q,h,_=>by cases h
 | e::l,q,h,hq=>by
  rcases List.mem_cons.1 h with rfl|h
  .rcases hq with hq|⟨j',c,oj,rfl,hj,hp⟩
   .cases q <;> (try (cases hq;done))
    unfold zcw
    rw[zaO,(zd3 _ _).2 (by rfl),Bool.true_or]
   .unfold zcw
    rw[hj]
    simp only[hp,zaO]
    rw[(zd3 _ _).2 (by rfl),Bool.true_or]
  .have ih:=zui (ops:=ops) h hq
   cases e with
   | ef j=>unfold zcw;rw[zaO,ih,Bool.or_true]
   | rd j c=>
    unfold zcw
    split
    .split
     .exact ih
     .rw [zaO,ih,Bool.or_true]
    .exact ih
   | bi j q=>unfold zcw;exact ih
   | ins j=>unfold zcw;exact ih
   | md j=>unfold zcw;exact ih
theorem zvQ(i j m:Nat)(l:List (Nat×Nat)):look i ((j,m)::l)=if i=j then m else look i l:=by
 show(match Nat.beq i j with|true=>m|false=>look i l)=_
 by_cases h:i=j
 .subst h;simp
 .rw [if_neg h]
  have:Nat.beq i j=false:=by
   cases hb:Nat.beq i j with
   | true=>exact absurd (Nat.eq_of_beq_eq_true hb) h
   | false=>rfl
  rw[this]
theorem zB6(ops:List Oper)(all:List Pe):∀ (l pre:List Pe) (anc:List (Nat×Nat)) (done:Nat) (efs:List Nat),pre++l=all->zy2 ops (zcw ops all) l anc done efs=true->
 (∀ j,done.testBit j=true↔∃ q ∈ pre,q.j=j)->(∀ D,Closed ops D->∀ j x,D j=true->(look j anc).testBit x=true->D x=true)->efs=(zd2 pre).reverse->
 (∀ l1 e l2,l=l1++e::l2->∃ o,zrB ops all (pre++l1) e o)/\∀ i,i<ops.length->∃ q ∈ all,q.j=i:=by
 intro l
 induction l with
 | nil=>
  intro pre anc done efs hall h hd _ _
  refine⟨fun l1 e l2 he=>(by cases l1 <;> cases he),fun i hi=>?_⟩
  unfold zy2 at h
  have h:=Nat.eq_of_beq_eq_true h
  rw[List.append_nil]at hall
  rw[<-hall]
  refine(hd i).1 ?_
  rw[h,Nat.testBit_two_pow_sub_one]
  simpa using hi
 | cons e l ih=>
  intro pre anc done efs hall h hd hanc hef
  unfold zy2 at h
  split at h
  .cases h
  .rename_i o ho
   simp only[Bool.and_eq_true,Bool.not_eq_true']at h
   obtain⟨h1,h2,h3,h4,h5,h6⟩:=h
   have hmask:∀ D,Closed ops D->Aft D o->∀ x,(zch anc o.after.toList).testBit x=true->D x=true:=fun D hc ha=>zvO (hanc D hc) _ ha
   have hent:zrB ops all pre e o:=by
    refine⟨fun q hq he=>?_,ho,fun x hx hb=>?_,fun t ht j oj hj hdst=>?_,fun D hc ha he q hq=>?_,fun D hc ha j c he=>?_,fun D hc ha j he q hq hk=>?_⟩
    .have:=(hd e.j).2 ⟨q,hq,he⟩
     rw[this]at h1;cases h1
    .exact (hd _).1 (zg4 h2 (zqo _ x hx hb))
    .have hp:(zhg t 0 ops).testBit j=true:=by have:=zm3 (t:=t) ops 0 j oj hj hdst;rwa [Nat.zero_add]at this
     have h0:zmR ops (zch anc o.after.toList) e.j t=true:=by
      rcases ht with ht|ht
      .exact zmS h3 t ht
      .unfold subG at h4
       rw[ht]at h4
       exact h4
     rcases zrU h0 hj hdst hp with h|h
     .exact .inl fun D hc ha=>hmask D hc ha _ h
     .exact .inr h
    .cases e <;> (try (cases he;done))
     have h5:zrW done (zch anc o.after.toList)=true:=h5
     exact hmask D hc ha _ (zg4 h5 ((hd _).2 ⟨q,hq,rfl⟩))
    .subst he
     have h5:zD6 o.op (zch anc o.after.toList) c efs=true:=h5
     unfold zD6 at h5
     rw[Bool.or_eq_true,Bool.or_eq_true]at h5
     rcases h5 with h5|h5|h5
     .exact .inl h5
     .have:=Nat.eq_of_beq_eq_true h5
      rw[hef,List.length_reverse]at this
      exact .inr (.inl this)
     .refine .inr (.inr ?_)
      split at h5
      .rename_i x hx
       rw[hef]at hx
       exact⟨x,hx,hmask D hc ha _ h5⟩
      .cases h5
    .subst he
     have h5:zrW (zcw ops all) (zch anc o.after.toList)=true:=h5
     exact hmask D hc ha _ (zg4 h5 (zui hq hk))
   have step:=ih (pre++[e]) _ _ _ (by rw[List.append_assoc];exact hall) h6 (fun j=>?_) (fun D hc j x hj hx=>?_) ?_
   .refine ⟨fun l1 e' l2 he=>?_,step.2⟩
    cases l1 with
    | nil=>
     simp at he
     obtain⟨rfl,rfl⟩:=he
     rw[List.append_nil]
     exact⟨o,hent⟩
    | cons a l1=>
     simp at he
     obtain⟨rfl,rfl⟩:=he
     have:=step.1 l1 e' l2 rfl
     rwa [List.append_assoc]at this
   .rw [zaO,Bool.or_eq_true,hd,zd3]
    simp only[List.mem_append,List.mem_singleton]
    constructor
    .rintro (⟨q,hq,rfl⟩|rfl)
     .exact ⟨q,.inl hq,rfl⟩
     .exact ⟨e,.inr rfl,rfl⟩
    .rintro ⟨q,hq|rfl,rfl⟩
     .exact .inl ⟨q,hq,rfl⟩
     .exact .inr rfl
   .rw [zvQ]at hx
    split at hx
    .rename_i hje
     subst hje
     exact hmask D hc (hc _ _ hj ho) x hx
    .exact hanc D hc j x hj hx
   .rw [hef]
    unfold zd2
    cases he:e.isEf with
    | true=>simp[he]
    | false=>simp[he]
theorem zp7{ops:List Oper}{pl:List Pe}(h:zkY ops pl=true):(∀ l1 e l2,pl=l1++e::l2->∃ o,zrB ops pl l1 e o)/\∀ i,i<ops.length->∃ q ∈ pl,q.j=i:=by
 unfold zkY at h
 rw[Bool.and_eq_true,Bool.and_eq_true]at h
 have:=zB6 ops pl pl [] [] 0 [] rfl h.2.2 (fun j=>by simp) (fun D hc j x hj hx=>by simp[look]at hx) (by simp[zd2])
 exact⟨fun l1 e l2 he=>by have:=this.1 l1 e l2 he;rwa [List.nil_append]at this,this.2⟩
theorem zgM{d:Nat}:∀ {l:List Oper},zoT d l=true->∀ o ∈ l,o.dst≠some d
 | [],_,o,h=>by cases h
 | x::l,h,o,ho=>by
  unfold zoT at h
  rw[Bool.and_eq_true]at h
  rcases List.mem_cons.1 ho with rfl|ho
  .intro hd
   rw[hd]at h
   simp at h
  .exact zgM h.2 o ho
theorem znD:∀ {ops:List Oper},zo4 ops=true->∀ (i j:Nat) (oi oj:Oper) (t:Tmp),ops[i]?=some oi->ops[j]?=some oj->oi.dst=some t->oj.dst=some t->i=j
 | [],_,i,j,oi,oj,t,hi,_,_,_=>by cases hi
 | o::l,h,i,j,oi,oj,t,hi,hj,h1,h2=>by
  unfold zo4 at h
  rw[Bool.and_eq_true]at h
  cases i with
  | zero=>
   cases j with
   | zero=>rfl
   | succ j=>
    simp at hi;subst hi
    rw[h1]at h
    exact absurd h2 (zgM h.1 oj (List.mem_of_getElem? (by simpa using hj)))
  | succ i=>
   cases j with
   | zero=>
    simp at hj;subst hj
    rw[h2]at h
    exact absurd h1 (zgM h.1 oi (List.mem_of_getElem? (by simpa using hi)))
   | succ j=>
    have:=znD h.2 i j oi oj t (by simpa using hi) (by simpa using hj) h1 h2
    rw[this]
end Go.Bm
/-! An operation of a region. -/
namespace Go.Bm
open Go Go.RowKit
variable {S:zd}{γ γ':Nat->Option G}{C:Ctx}{h h':Hp}{w w':World}{σ:Tr BV}{a:Act}{P:Program}{rd:Option Nat}
def zg(S:zd)(f:FuncId)(xs:List BV)(h:Hp)(v:BV)(h':Hp):Prop:=∀ (C:Ctx) (γ:Nat->Option G) (w:World) (vs:List Value),yC S C->Rel C γ h w->zm γ xs vs->
 (∃ z w',(callFunc f vs.toArray).run S.P w=.ok (.value z) w'/\Did C γ h v h' z w')\/
 ((callFunc f vs.toArray).run S.P w=.ok (.enter f vs.toArray) w/\Calls S.P f vs.toArray w fun e w'=>∃ z,e=.returned z/\Did C γ h v h' z w')
def zu9(S:zd)(l:Nat)(xs:List BV)(h:Hp)(v:BV)(h':Hp):Prop:=∀ (C:Ctx) (γ:Nat->Option G) (w:World) (vs:List Value) (g:G),yC S C->Rel C γ h w->zm γ xs vs->γ l=some g->
 ∃ r,w.heap[g.b]?=some (.loop r)/\vs.length=r.params.size/\
  RoundIn (FW none) 0 S.P g.b r.fn ((r.params.zip vs.toArray).foldl (fun tmps (t,a)=>tmps.setIfInBounds t a) r.tmps) r.assign r.body w fun e w'=>∃ z,e=.returned z/\Did C γ h v h' z w'
structure zmH(S:zd)(A:Ca):Prop where
 call:∀ f xs h v h',A.call f xs h=some (v,h')->zg S f xs h v h'
 round:∀ l xs h v h',A.round l xs h=some (v,h')->zu9 S l xs h v h'
inductive DR(γ:Nat->Option G):Df->Deferred->Prop
 | call (f:FuncId) (xs:List BV) (args lb:Array Value) (h:zm γ xs (args++lb).toList):DR γ (.call f xs) { target:=.fn (.func f) lb,args }
 | mark (id:Nat) (g:G) (h:γ id=some g):DR γ (.mark id) (zb0 g.b)
inductive DRs(γ:Nat->Option G):List Df->List Deferred->Prop
 | nil:DRs γ [] []
 | cons {x:Df} {d:Deferred} {l:List Df} {r:List Deferred} (h:DR γ x d) (t:DRs γ l r):DRs γ (x::l) (d::r)
theorem DR.mono(hg:GLe γ γ'){x:Df}{d:Deferred}(h:DR γ x d):DR γ' x d:=by
 cases h with
 | call f xs args lb h=>exact .call f xs args lb (zm.mono hg h)
 | mark id g h=>exact .mark id g (hg _ _ h)
theorem DRs.mono(hg:GLe γ γ'){l:List Df}{r:List Deferred}(h:DRs γ l r):DRs γ' l r:=by
 induction h with
 | nil=>exact .nil
 | cons h _ ih=>exact .cons (h.mono hg) ih
theorem za2{dst:Option Nat}(hd:∀ d,dst=some d->d<a.tmps.size)(h:yF γ σ a.tmps){v:BV}{z:Value}(hr:zf γ v z):yF γ (put σ dst v) (a.put dst z).tmps:=by
 intro t
 cases dst with
 | none=>exact h t
 | some d=>
  have hd:=hd d rfl
  show zf γ ((σ.set d v).get t) _
  rw[Tr.get_set]
  by_cases ht:t=d
  .subst ht
   rw[if_pos rfl]
   have e:(a.put (some t) z).tmps.getD t undef=z:=by
    simp[Act.put,Array.getD_eq_getD_getElem?,hd]
   rw[e];exact hr
  .rw [if_neg ht]
   have e:(a.put (some d) z).tmps.getD t undef=a.tmps.getD t undef:=by
    simp only[Act.put,Array.getD_eq_getD_getElem?]
    rw[Array.getElem?_setIfInBounds_ne (fun e=>ht e.symm)]
   rw[e];exact h t
theorem zwY{want b:Bool}{x:BV}(h:znl want x=some b){v:Value}(hx:zf γ x v):((match some v with|some (.bool b)=>some b|_=>none)==some want)=b:=by
 cases x <;> simp only[znl]at h <;> (try (cases h;done))
 case b x=>
  cases hx
  cases want <;> cases x <;> cases h <;> rfl
 case t l=>
  cases hx with|t _ vs hvs=>
  cases l with
  | nil=>cases h;cases want <;> rfl
  | cons _ _=>cases h
theorem zls{ops:Array Oper}(hs:yF γ σ a.tmps){o:Oper}{b:Bool}(h:ze6 ops.toList σ o.guard=some b)(hnt:∀ d,(∃ o' ∈ ops.toList,o'.dst=some d)->d<a.tmps.size):Region.wanted o (yielded ops a.tmps)=b:=by
 unfold Region.wanted
 cases hg:o.guard with
 | none=>rw[hg]at h;cases h;rfl
 | some jw=>
  obtain⟨j,want⟩:=jw
  rw[hg]at h
  have h:ziH ops.toList σ (j,want)=some b:=h
  unfold ziH zzG at h
  dsimp only at h ⊢
  cases ho:ops.toList[j]? with
  | none=>rw[ho]at h;cases h
  | some o'=>
   rw[ho]at h
   dsimp only at h
   cases hd:o'.dst with
   | none=>rw[hd]at h;cases h
   | some t=>
    rw[hd]at h
    have h:znl want (σ.get t)=some b:=h
    have hr:=hs t
    have hlt:=hnt t ⟨o',List.mem_of_getElem? ho,hd⟩
    have hy:yielded ops a.tmps j=match some (a.tmps.getD t undef)with|some (.bool b)=>some b|_=>none:=by
     unfold yielded
     rw[Array.getElem?_toList]at ho
     rw[ho]
     show(match (o'.dst).bind (a.tmps[·]?)with|some (.bool b)=>some b|_=>none)=_
     rw[hd]
     show(match a.tmps[t]? with|some (.bool b)=>some b|_=>none)=_
     rw[zwA hlt]
    rw[hy]
    exact zwY h hr
end Go.Bm
/-! An operation of a region, on;regions in their order. -/
namespace Go.Bm
open Go Go.RowKit
variable {S:zd}{γ γ':Nat->Option G}{C:Ctx}{h h':Hp}{w w':World}{σ:Tr BV}{a:Act}{P:Program}{rd:Option Nat}{A:Ca}{d:List Df}
theorem Did.gle(r:Rel C γ h w){v:BV}{z:Value}(hd:Did C γ h v h' z w'):∃ γ',GLe γ γ'/\Ext h.nx γ γ'/\h.nx<=h'.nx/\zf γ' v z/\Rel C γ' h' w':=by
 obtain⟨γ',h1,h2,h3,h4⟩:=hd
 exact⟨γ',r.ext_le h1,h1,h2,h3,h4⟩
theorem zlR(hA:zmH S A)(hG:yC S C)(r:Rel C γ h w)(hs:yF γ σ a.tmps){dst:Option Tmp}{fop:Operand}{args:Array Operand}{ts:Array TypeId}{type:TypeId}{pos:String}{after:Array Edge}{guard:Option (Nat×Bool)}{v:BV}
 (hv:zrl A h (opv σ fop) (maps σ args.toList)=some (v,h')) {next:Act->World->Prop} {Q:Exit->Act->World->Prop} (hn:∀ z w',Did C γ h v h' z w'->next (a.put dst z) w'):
 (⟨dst,.call ⟨.value fop,args,ts⟩,type,pos,after,guard⟩:Oper).wpIn (FW rd) 0 S.P a w next Q:=by
 have hf:=zo hs fop
 have hxs:=zci hs args.toList
 generalize hx:opv σ fop=x at hv hf
 cases x <;> simp only[zrl]at hv <;> (try (cases hv;done))
 case f g fs cs=>
  generalize hq:a.eval fop=q at hf
  cases hf with|f _ _ _ vf vc h1 h2=>
  have hrel:=h1.append (hxs.append h2)
  have e:(vf.toList++(args.toList.map a.eval++vc.toList)).toArray=(vf++args.map a.eval)++vc:=by apply Array.ext';simp
  rcases hA.call _ _ _ _ _ hv C γ w _ hG r hrel with⟨z,w',hr,hd⟩|⟨hr,hc⟩
  .rw [e]at hr
   refine yk (v:=z) (w':=w') ?_ (hn z w' hd)
   simp only[execOp,resolve,hq,Deferred.ofValue,Sem.run_bind,Sem.run_pure,Result.andThen_ok,invoke,hr]
  .rw [e]at hr hc
   refine zfA (f:=g) (args:=(vf++args.map a.eval)++vc) (w':=w) ?_ (hc.mono fun e w' ⟨z,he,hd⟩=>⟨z,he,hn z w' hd⟩)
   simp only[execOp,resolve,hq,Deferred.ofValue,Sem.run_bind,Sem.run_pure,Result.andThen_ok,invoke,hr]
 case y l=>
  generalize hq:a.eval fop=q at hf
  cases hf with|y _ g hg=>
  obtain⟨rr,hl,hsz,hr⟩:=hA.round _ _ _ _ _ hv C γ w _ g hG r hxs hg
  refine zgw hq hl (by simpa using hsz) ?_
  have e:(args.toList.map a.eval).toArray=args.map a.eval:=by apply Array.ext';simp
  rw[e]at hr
  exact hr.mono fun e w' ⟨z,he,hd⟩=>⟨z,he,hn z w' hd⟩
theorem znC(hS:VOk S)(hA:zmH S A)(hG:yC S C)(r:Rel C γ h w)(hs:yF γ σ a.tmps)(o:Oper){v:BV}(hv:zq2 S A o.op σ h=some (v,h')){next:Act->World->Prop}{Q:Exit->Act->World->Prop}
 (hn:∀ z w',Did C γ h v h' z w'->next (a.put o.dst z) w'):o.wpIn (FW rd) 0 S.P a w next Q:=by
 unfold zq2 at hv
 split at hv
 .rename_i p hE
  obtain rfl:=Option.some.inj hv
  obtain⟨n,z,w',h1,h2,h3⟩:=zdX hS.toTyOk hG r hs o hE
  rcases h2 with⟨rfl,rfl⟩|rfl
  .exact zbW h1 (hn undef w' h3)
  .exact yk h1 (hn z w' h3)
 .split at hv
  .rename_i fop args ts heq
   obtain⟨dst,op,type,pos,after,guard⟩:=o
   dsimp only at heq
   subst heq
   exact zlR hA hG r hs hv hn
  .cases hv
theorem zvK(hS:VOk S)(hA:zmH S A)(hG:yC S C)(r:Rel C γ h w)(hs:yF γ σ a.tmps)(hdr:DRs γ d a.defers)(o:Oper)(hdst:∀ t,o.dst=some t->t<a.tmps.size)(hnd:zoy o.op=false->rd=none){st:St}(hv:opR S A o.op o.dst σ h d=some st)
 {next:Act->World->Prop} {Q:Exit->Act->World->Prop} (hn:∀ γ' a' w',Ext h.nx γ γ'->h.nx<=st.h.nx->Rel C γ' st.h w'->yF γ' st.σ a'.tmps->DRs γ' st.d a'.defers->a'.tmps.size=a.tmps.size->next a' w'):
 o.wpIn (FW rd) 0 S.P a w next Q:=by
 have fin:∀ (v:BV) (h':Hp) (z:Value) (w':World),st=⟨put σ o.dst v,h',d⟩->Did C γ h v h' z w'->next (a.put o.dst z) w':=by
  intro v h' z w' hst hd
  subst hst
  obtain⟨γ',h1,h2,h3,h4,h5⟩:=hd.gle r
  exact hn γ' _ w' h2 h3 h5 (za2 hdst (yF.mono h1 hs) h4) (by rw[yB];exact hdr.mono h1) (zae _ _ _)
 unfold opR at hv
 cases hV:evV S h o.op σ with
 | some v=>
  rw[hV]at hv
  have hv:=Option.some.inj hv
  obtain⟨z,h1,h2⟩:=zf1 hS hG r hs o hV
  exact yk h1 (fin v h z w hv.symm (Did.same r h2))
 | none=>
  rw[hV]at hv
  have hv:opB S A o.op o.dst σ h d=some st:=hv
  unfold opB at hv
  cases hB:evB S o.op σ h.nx with
  | some p=>
   rw[hB]at hv
   obtain⟨v,ob⟩:=p
   have hv:=Option.some.inj hv
   obtain⟨z,w',g,h1,h2,h3,h4⟩:=zf2 hS hs (r.us h.nx (Nat.le_refl _)) o hB w
   exact yk h1 (fin v (h.new ob) z w' hv.symm (r.born h2 h3 h4))
  | none=>
   rw[hB]at hv
   have hv:opE S A o.op o.dst σ h d=some st:=hv
   unfold opE at hv
   cases hE:evE S h o.op σ with
   | some p=>
    rw[hE]at hv
    obtain⟨v,h1⟩:=p
    have hv:=Option.some.inj hv
    refine znC hS hA hG r hs o (v:=v) (h':=h1) ?_ fun z w' hd=>fin v h1 z w' hv.symm hd
    unfold zq2;rw[hE]
   | none=>
    rw[hE]at hv
    have hv:opC S A o.op o.dst σ h d=some st:=hv
    cases o with|mk dst op type pos after guard=>
    dsimp only at hv hdst fin hnd
    clear hV hB hE
    cases op with
    | call c=>
     cases c with|mk callee args ts=>
     cases callee with
     | builtin b=>cases hv
     | invoke f m=>cases hv
     | value fop=>
      have hv:Bm.fin dst σ d (zrl A h (opv σ fop) (maps σ args.toList))=some st:=hv
      unfold Bm.fin at hv
      split at hv
      .rename_i v h1 hc
       exact zlR hA hG r hs hc fun z w' hd=>fin v h1 z w' (Option.some.inj hv).symm hd
      .cases hv
    | defer c=>
     cases c with|mk callee args ts=>
     cases callee with
     | builtin b=>cases hv
     | invoke f m=>cases hv
     | value fop=>
      have hrd:=hnd rfl
      subst hrd
      have hv:(match opv σ fop with
       | .f g fs cs=>some ⟨put σ dst (.t []),h,.call g (fs++(maps σ args.toList++cs))::d⟩
       | _=>none)=some st:=hv
      split at hv
      .rename_i g fs cs hx
       have hv:=Option.some.inj hv
       have hf:=zo hs fop
       rw[hx]at hf
       have hxs:=zci hs args.toList
       generalize hq:a.eval fop=q at hf
       cases hf with|f _ _ _ vf vc h1 h2=>
       have hrel:=h1.append (hxs.append h2)
       have hrun:(execOp a.eval ⟨dst,.defer ⟨.value fop,args,ts⟩,type,pos,after,guard⟩).run S.P w=.ok (.defer { target:=.fn (.func g) vc,args:=vf++args.map a.eval }) w:=by
        simp only[execOp,resolve,hq,Deferred.ofValue,Sem.run_bind,Sem.run_pure,Result.andThen_ok]
       subst hv
       refine⟨fun _ _=>trivial,?_⟩
       have e1:Oper.semAt (FW none).round a.eval ⟨dst,.defer ⟨.value fop,args,ts⟩,type,pos,after,guard⟩=execOp a.eval ⟨dst,.defer ⟨.value fop,args,ts⟩,type,pos,after,guard⟩:=rfl
       rw[e1,hrun,Oper.uponIn_defer]
       refine hn γ _ w (Ext.refl _ _) (Nat.le_refl _) r (za2 (a:={ a with defers:=_::a.defers }) hdst hs (.t _ _ .nil)) ?_ (zae _ _ _)
       rw[yB]
       refine .cons (.call g _ _ _ ?_) hdr
       simpa using hrel
      .cases hv
    | _=>cases hv
end Go.Bm
/-! Code. -/
namespace Go.Bm
open Go Go.RowKit
variable {S:zd}{γ γ':Nat->Option G}{C:Ctx}{h h':Hp}{w w':World}{σ:Tr BV}{a:Act}{P:Program}{rd:Option Nat}{A:Ca}{d:List Df}
def Out(C:Ctx)(γ:Nat->Option G)(h:Hp)(n:Nat)(s':St)(a':Act)(w':World):Prop:=
 ∃ γ',Ext h.nx γ γ'/\h.nx<=s'.h.nx/\Rel C γ' s'.h w'/\yF γ' s'.σ a'.tmps/\DRs γ' s'.d a'.defers/\a'.tmps.size=n
theorem Out.trans{n:Nat}{s1 s2:St}{a1:Act}{γ1:Nat->Option G}(he:Ext h.nx γ γ1)(hn:h.nx<=s1.h.nx)(hs:a1.tmps.size=n){a2:Act}{w2:World}(k:Out C γ1 s1.h a1.tmps.size s2 a2 w2):Out C γ h n s2 a2 w2:=by
 obtain⟨γ2,h1,h2,h3,h4,h5,h6⟩:=k
 exact⟨γ2,he.trans h1 hn,Nat.le_trans hn h2,h3,h4,h5,by rw[h6,hs]⟩
def zeO:Ex->Exit
 | .n=>.normal
 | .x i=>.exit i
 | .r=>.ret
def zmF(S:zd)(rec:Rc):Prop:=∀ (nt:Nat) (c:AC) (s:St) (e:Ex) (s':St),rec c s=some (e,s')->∀ (C:Ctx) (γ:Nat->Option G) (a:Act) (w:World) (rd:Option Nat),
 okC nt rd.isSome c=true->nt<=a.tmps.size->yC S C->Rel C γ s.h w->yF γ s.σ a.tmps->DRs γ s.d a.defers->
 c.code.wpIn (FW rd) 0 S.P (fun x a' w'=>x=zeO e/\Out C γ s.h a.tmps.size s' a' w') a w
theorem zcN{α:Type}{f:α->Bool}:∀ {l:List α},zpm f l=true->∀ x ∈ l,f x=true
 | [],_,x,h=>by cases h
 | y::l,h,x,hx=>by
  unfold zpm at h
  rw[Bool.and_eq_true]at h
  rcases List.mem_cons.1 hx with rfl|hx
  .exact h.1
  .exact zcN h.2 x hx
theorem zir{nt:Nat}{o:Oper}(h:zyn nt rd.isSome o=true):(∀ t,o.dst=some t->t<nt)/\(zoy o.op=false->rd=none):=by
 unfold zyn zDg at h
 rw[Bool.and_eq_true]at h
 refine⟨fun t ht=>?_,fun hn=>?_⟩
 .rw [ht]at h;exact zS h.1
 .cases rd with
  | none=>rfl
  | some l=>have:=h.2;simp[hn]at this
theorem zsp(hS:VOk S)(hA:zmH S A)(hG:yC S C){ops:Array Oper}{nt:Nat}(hok:∀ o ∈ ops.toList,zyn nt rd.isSome o=true){Q:Exit->Act->World->Prop}:
 ∀ (l:List Oper),(∀ o ∈ l,o ∈ ops.toList)->∀ (σ:Tr BV) (h:Hp) (d:List Df) (γ:Nat->Option G) (a:Act) (w:World) (st:St),zqg l S A ops.toList σ h d=some st->Rel C γ h w->yF γ σ a.tmps->DRs γ d a.defers->nt<=a.tmps.size->
  (∀ a' w',Out C γ h a.tmps.size st a' w'->Q .normal a' w')->wpListIn (FW rd) 0 S.P ops Q l a w:=by
 intro l
 induction l with
 | nil=>
  intro _ σ h d γ a w st hv r hs hd _ hQ
  cases hv
  exact hQ a w ⟨γ,Ext.refl _ _,Nat.le_refl _,r,hs,hd,rfl⟩
 | cons o l ih=>
  intro hmem σ h d γ a w st hv r hs hd hnt hQ
  have hv:zuX (zqg l) S A ops.toList (opS S A ops.toList o σ h d)=some st:=hv
  have eo:opS S A ops.toList o σ h d=opG S A o.op o.dst σ h d (ze6 ops.toList σ o.guard):=by cases o;rfl
  rw[eo]at hv
  obtain⟨k1,k2⟩:=zir (hok o (hmem o (by simp)))
  cases hg:ze6 ops.toList σ o.guard with
  | none=>rw[hg]at hv;cases hv
  | some b=>
   rw[hg]at hv
   have hw:=zls hs hg (fun d hd=>by
    obtain⟨o',ho',hd'⟩:=hd
    exact Nat.lt_of_lt_of_le ((zir (hok o' ho')).1 d hd') hnt)
   have hdst:∀ t,o.dst=some t->t<a.tmps.size:=fun t ht=>Nat.lt_of_lt_of_le (k1 t ht) hnt
   unfold wpListIn
   cases b with
   | false=>
    rw[if_neg (by rw[hw];simp)]
    refine⟨fun _ _=>trivial,?_⟩
    have hv:zqg l S A ops.toList (put σ o.dst (.t [])) h d=some st:=hv
    refine ih (fun x hx=>hmem x (by simp[hx])) _ _ _ γ _ w st hv r (za2 hdst hs (.t _ _ .nil)) (by rw[yB];exact hd) (by rw[zae];exact hnt) fun a' w' ho=>hQ a' w' ?_
    rw[zae]at ho;exact ho
   | true=>
    rw[if_pos hw]
    cases hR:opR S A o.op o.dst σ h d with
    | none=>
     have hv:zuX (zqg l) S A ops.toList (opR S A o.op o.dst σ h d)=some st:=hv
     rw[hR]at hv;cases hv
    | some s1=>
     have hv:zuX (zqg l) S A ops.toList (opR S A o.op o.dst σ h d)=some st:=hv
     rw[hR]at hv
     have hv:zqg l S A ops.toList s1.σ s1.h s1.d=some st:=by cases s1;exact hv
     refine zvK hS hA hG r hs hd o hdst k2 hR fun γ1 a1 w1 e1 e2 e3 e4 e5 e6=>?_
     exact ih (fun x hx=>hmem x (by simp[hx])) _ _ _ γ1 a1 w1 st hv e3 e4 e5 (by rw[e6];exact hnt) fun a' w' ho=>hQ a' w' (ho.trans e1 e2 e6)
def ztI(S:zd):Prop:=∀ (A:Ca) (ops:Array Oper) (pl:List Pe) (s:St) (st:St) (nt:Nat),zmH S A->zkY ops.toList pl=true->zBu S A ops.toList (some pl) s=some st->∀ (C:Ctx) (γ:Nat->Option G) (a:Act) (w:World) (rd:Option Nat) (id:Nat),
 (∀ o ∈ ops.toList,zyn nt rd.isSome o=true)->nt<=a.tmps.size->yC S C->Rel C γ s.h w->yF γ s.σ a.tmps->DRs γ s.d a.defers->
 (Code.region id ops true).wpIn (FW rd) 0 S.P (fun x a' w'=>x=.normal/\Out C γ s.h a.tmps.size st a' w') a w
theorem ztj(hS:VOk S)(hD:ztI S){rec:Rc}(hA:zmH S ⟨zdc S rec,zeS rec⟩){nt id:Nat}{ops:Array Oper}{draw:Bool}{pl:Option (List Pe)}{s s':St}{e:Ex}(hv:cReg id ops draw pl S rec s=some (e,s'))
 (hok:okC nt rd.isSome (.reg id ops draw pl)=true) (hnt:nt<=a.tmps.size) (hG:yC S C) (r:Rel C γ s.h w) (hs:yF γ s.σ a.tmps) (hd:DRs γ s.d a.defers):
 (Code.region id ops draw).wpIn (FW rd) 0 S.P (fun x a' w'=>x=zeO e/\Out C γ s.h a.tmps.size s' a' w') a w:=by
 unfold okC at hok
 rw[Bool.and_eq_true]at hok
 have hops:=zcN hok.1
 have nrm:∀ {x:Option St},zEj x=some (e,s')->e=.n/\x=some s':=by
  intro x hx
  cases x with
  | none=>cases hx
  | some y=>
   have hx:=Option.some.inj hx
   injection hx with h1 h2
   subst h1 h2;exact⟨rfl,rfl⟩
 cases draw with
 | false=>
  obtain⟨rfl,hx⟩:=nrm (x:=zqg ops.toList S ⟨zdc S rec,zeS rec⟩ ops.toList s.σ s.h s.d) hv
  exact wpIn_region_list (zsp hS hA hG hops ops.toList (fun o h=>h) _ _ _ γ a w s' hx r hs hd hnt fun a' w' ho=>⟨rfl,ho⟩)
 | true=>
  obtain⟨rfl,hx⟩:=nrm (x:=zBu S ⟨zdc S rec,zeS rec⟩ ops.toList pl s) hv
  cases pl with
  | none=>cases hx
  | some pl=>exact hD _ ops pl s s' nt hA hok.2 hx C γ a w rd id hops hnt hG r hs hd
end Go.Bm
/-! Calls of functions. -/
namespace Go.Bm
open Go Go.RowKit
variable {S:zd}{γ γ':Nat->Option G}{C:Ctx}{h h':Hp}{w w':World}{σ:Tr BV}{a:Act}{P:Program}{rd:Option Nat}{A:Ca}{d:List Df}
def zAz(S:zd)(f:FuncId):Prop:=∀ (args:Array Value) (C:Ctx) (γ:Nat->Option G) (h:Hp) (w:World),Rel C γ h w->CallsDIn Fence.wide 0 S.P f args .returning w fun e u' w'=>(∃ v,e=.returned v)/\u'=.returning/\Rel C γ h w'
structure SOk(S:zd):Prop extends VOk S where
 fn:∀ f fn,S.fn f=some fn->S.P.funcs[f]?=some fn/\(fn.name== "runtime.NumGoroutine")=false/\∀ c,fn.body=some c->okC fn.ntmps false (AC.of (S.plan f) c)=true
 ext:∀ f k,S.ext f=some k->∀ xs h v h',zgj S h k xs=some (v,h')->zg S f xs h v h'
 idle:∀ f,S.idle f=true->zR S.P f=true/\zAz S f
def zhe(tmps:Array Value):ResultVar->Sem Value
 | .tmp t=>pure (tmps.getD t undef)
 | .cell t ty=>do loadVar ty (<-asAddr (tmps.getD t undef))
theorem zee(fn:Func)(tmps:Array Value):results fn tmps=(do let vs <-fn.results.mapM (zhe tmps);pure (if h:vs.size=1 then vs[0] else .tuple vs)):=by
 have e:(fun x=>match x with|.tmp t=>pure (tmps.getD t undef)|.cell a t=>do loadVar t (<-asAddr (tmps.getD a undef)))=zhe tmps:=by
  funext x;cases x <;> rfl
 rw[<-e]
 rfl
theorem zcB{ty:TypeId}{v u:Value}(h:(Instr.loadAt ty v).run P w=.ok u w):(do loadVar ty (<-asAddr v):Sem Value).run P w=.ok u w:=by
 unfold Instr.loadAt at h
 cases v with
 | pointer p=>
  cases p with
  | some ad=>exact h
  | none=>rw[Sem.run_bind]at h;simp[Instr.sureAddr]at h
 | _=>rw[Sem.run_bind]at h;simp[Instr.sureAddr]at h
theorem zsh(hT:TyOk S)(hG:yC S C)(r:Rel C γ h w){tm:Array Value}(hs:yF γ σ tm){rv:ResultVar}{x:BV}(hx:zBr S σ h rv=some x):∃ v,(zhe tm rv).run S.P w=.ok v w/\zf γ x v:=by
 cases rv with
 | tmp t=>cases hx;exact⟨_,rfl,hs t⟩
 | cell t ty=>
  obtain⟨u,h1,h2⟩:=zjh hT hG r (show ze3 S h ty (σ.get t)=some x from hx) (hs t)
  exact⟨u,zcB h1,h2⟩
theorem zkS(hT:TyOk S)(hG:yC S C)(r:Rel C γ h w){tm:Array Value}(hs:yF γ σ tm)(fn:Func){l:List BV}(hx:zil S σ h fn.results.toList=some l):∃ v,(results fn tm).run S.P w=.ok v w/\zf γ (zmi l) v:=by
 have key:∀ (rs:List ResultVar) (l:List BV),zil S σ h rs=some l->∃ vs:List Value,(rs.mapM (zhe tm)).run S.P w=.ok vs w/\zm γ l vs:=by
  intro rs
  induction rs with
  | nil=>intro l hl;cases hl;exact⟨[],rfl,.nil⟩
  | cons x rs ih=>
   intro l hl
   unfold zil at hl
   split at hl
   .rename_i y ys hy hys
    cases hl
    obtain⟨v,hv,hr⟩:=zsh hT hG r hs hy
    obtain⟨vs,hvs,hrs⟩:=ih ys hys
    refine⟨v::vs,?_,.cons hr hrs⟩
    rw[List.mapM_cons]
    simp only[Sem.run_bind,hv,Sem.run_pure,Result.andThen_ok,hvs]
   .cases hl
 obtain⟨vs,hvs,hrs⟩:=key _ _ hx
 have hm:(fn.results.mapM (zhe tm)).run S.P w=.ok vs.toArray w:=by
  rw[Array.mapM_eq_mapM_toList,Sem.run_map,hvs];rfl
 have hres:(results fn tm).run S.P w=.ok (if h:vs.toArray.size=1 then vs.toArray[0] else .tuple vs.toArray) w:=by
  rw[zee,Sem.run_bind,hm]
  rfl
 refine⟨_,hres,?_⟩
 have hlen:=hrs.length
 match l,vs,hrs,hlen with
 | [x],[v],hrs,_=>obtain⟨v',e,h1⟩:=hrs.one_inv;cases e;exact h1
 | [],[],hrs,_=>simpa[zmi]using zf.t _ _ hrs
 | x::y::l,v::u::vs,hrs,_=>simpa[zmi]using zf.t _ (v::u::vs).toArray (by simpa using hrs)
theorem zAh{xs:List BV}{vs:List Value}(h:zm γ xs vs)(n:Nat):yF γ (zdf xs) (vs.toArray++Array.replicate n undef):=by
 intro t
 have hlen:=h.length
 rcases Nat.lt_or_ge t xs.length with ht|ht
 .have h1:=Tr.sets_get? xs .e 0 t ht
  rw[Nat.zero_add]at h1
  obtain⟨v,h2,h3⟩:=h.get? h1.symm
  have:(vs.toArray++Array.replicate n undef).getD t undef=v:=by
   rw[Array.getD_eq_getD_getElem?,Array.getElem?_append_left (by simpa using by omega)]
   simp[h2]
  rw[this];exact h3
 .have h1:(zdf xs).get t=.u:=by
   have:=Tr.sets_get_ne xs .e 0 t (by omega)
   show(Tr.sets .e 0 xs).get t=_
   rw[this];exact Tr.get_e t
  rw[h1];exact .u _
def DcOk(S:zd)(cl:FuncId->List BV->Hp->Option Hp):Prop:=∀ f xs h h',cl f xs h=some h'->∀ C γ w (vs:List Value),yC S C->Rel C γ h w->zm γ xs vs->
 zR S.P f=true/\CallsDIn Fence.wide 0 S.P f vs.toArray .returning w fun e u' w'=>(∃ v,e=.returned v)/\u'=.returning/\∃ γ',Ext h.nx γ γ'/\h.nx<=h'.nx/\Rel C γ' h' w'
theorem zsb{cl:FuncId->List BV->Hp->Option Hp}(hc:DcOk S cl)(hG:yC S C)(fn:Func)(tm:Array Value):∀ (ds:List Df) (h h':Hp) (γ:Nat->Option G) (w:World) (defs:List Deferred) (R:Ending->World->Prop),
 zsc cl ds h=some h'->Rel C γ h w->DRs γ ds defs->(∀ γ' w',Ext h.nx γ γ'->h.nx<=h'.nx->Rel C γ' h' w'->∃ v,(results fn tm).run S.P w'=.ok v w'/\R (.returned v) w')->
 LeavesInM Fence.wide 0 S.P fn tm R defs .returning w:=by
 intro ds
 induction ds with
 | nil=>
  intro h h' γ w defs R hv r hd hR
  cases hd
  cases hv
  exact hR γ w (Ext.refl _ _) (Nat.le_refl _) r
 | cons x ds ih=>
  intro h h' γ w defs R hv r hd hR
  cases hd with|cons h1 h2=>
  refine⟨(by intro e;cases e),?_⟩
  cases h1 with
  | mark id g hg=>
   left
   unfold zsc at hv
   split at hv
   .rename_i hdf
    have hob:=r.ob id
    rw[hdf]at hob
    obtain⟨g',hg',hh⟩:=hob
    rw[hg]at hg';cases hg'
    refine⟨g.b,_,rfl,run_takeDeferred hh,ih (h.set id .x) h' γ _ _ R hv ?_ h2 fun γ' w' e1 e2 e3=>hR γ' w' e1 e2 e3⟩
    have hlt:=(r.lo id g (by rw[hdf];simp) hg).1
    exact r.write hg (by rw[hdf];simp) rfl rfl rfl (by simp[World.putObj]) (fun b hb=>World.putObj_heap_other hb) trivial
   .cases hv
  | call f xs args lb hx=>
   right
   unfold zsc at hv
   split at hv
   .rename_i h1 hc1
    have hb:=hc f xs h h1 hc1 C γ w _ hG r hx
    have e:((args++lb).toList).toArray=args++lb:=by simp
    rw[e]at hb
    refine⟨fun h=>(by cases h),.func f,lb,f,args++lb,rfl,?_,fun _ _=>trivial,?_⟩
    .show (callFunc f (args++lb)).run S.P w=_
     exact ym hb.1 _ _
    .refine ⟨trivial,fun c cs hm hroom=>?_⟩
     obtain⟨e,u',w',fr,⟨⟨v,rfl⟩,rfl,γ1,e1,e2,e3⟩,hs,hk,hf,hg⟩:=hb.2.2 c cs hm hroom
     refine⟨_,_,w',fr,?_,hs,hk,hf,hg⟩
     exact ih h1 h' γ1 w' _ R hv e3 (h2.mono (r.ext_le e1)) fun γ' w'' k1 k2 k3=>hR γ' w'' (e1.trans k1 e2) (Nat.le_trans e2 k2) k3
   .cases hv
end Go.Bm
/-! Calls of functions, rounds. -/
namespace Go.Bm
open Go Go.RowKit
variable {S:zd}{γ γ':Nat->Option G}{C:Ctx}{h h':Hp}{w w':World}{σ:Tr BV}{a:Act}{P:Program}{rd:Option Nat}{A:Ca}{d:List Df}
theorem ze9(hS:SOk S){f:FuncId}{fn:Func}{c:Code}(hf:S.fn f=some fn)(hb:fn.body=some c):zR S.P f=true:=by
 obtain⟨h1,h2,_⟩:=hS.fn f fn hf
 unfold zR
 rw[h1]
 simp[hb,h2]
theorem zlV(hS:SOk S){rec:Rc}(hR:zmF S rec){f:FuncId}{fn:Func}{c:Code}(hf:S.fn f=some fn)(hb:fn.body=some c){xs:List BV}{e:Ex}{s':St}(hv:rec (AC.of (S.plan f) c) ⟨zdf xs,h,[]⟩=some (e,s'))
 (hG:yC S C) (r:Rel C γ h w) {vs:List Value} (hx:zm γ xs vs):
 c.wpIn Fence.wide 0 S.P (fun x a' w'=>x=zeO e/\∃ n,Out C γ h n s' a' w') { tmps:=vs.toArray++Array.replicate (fn.ntmps-vs.toArray.size) undef,defers:=[] } w:=by
 obtain⟨h1,h2,h3⟩:=hS.fn f fn hf
 have:=hR fn.ntmps _ _ _ _ hv C γ { tmps:=vs.toArray++Array.replicate (fn.ntmps-vs.toArray.size) undef,defers:=[] } w none (h3 c hb) (by simp;omega) hG r (zAh hx _) .nil
 rw[AC.code_of]at this
 exact wpIn_mono this fun x a' w' ⟨he,ho⟩=>⟨he,_,ho⟩
theorem zrm(hS:SOk S){rec:Rc}(hR:zmF S rec):DcOk S (zz7 S rec):=by
 intro f xs h h' hv C γ w vs hG r hx
 unfold zz7 at hv
 split at hv
 .rename_i hi
  cases hv
  obtain⟨h1,h2⟩:=hS.idle f hi
  refine⟨h1,trivial,fun c cs hm hroom=>?_⟩
  obtain⟨e,u',w',fr,⟨k1,k2,k3⟩,k4⟩:=(h2 vs.toArray C γ h w r).2 c cs hm hroom
  exact⟨e,u',w',fr,⟨k1,k2,γ,Ext.refl _ _,Nat.le_refl _,k3⟩,k4⟩
 .unfold zDC at hv
  split at hv
  .rename_i fn hf
   split at hv
   .rename_i c hb
    split at hv
    .cases hv
    .rename_i e s' hx' hrec
     split at hv
     .rename_i l hd hres
      cases hv
      have hb1:=zlV hS hR hf hb hrec hG r hx
      refine⟨ze9 hS hf hb,?_⟩
      have hc:=callsDIn_of_wp (F:=Fence.wide) (n:=0) (u:=.returning) (R:=fun e w'=>(∃ v,e=.returned v)/\∃ γ',Ext h.nx γ γ'/\h.nx<=s'.h.nx/\Rel C γ' s'.h w') (hS.fn f fn hf).1 hb trivial (wpIn_mono hb1 fun x a' w' ⟨he,n,γ',o1,o2,o3,o4,o5,o6⟩=>by
       rw[hd]at o5
       cases hda:a'.defers with
       | cons _ _=>rw[hda]at o5;cases o5
       | nil=>
        obtain⟨v,v1,v2⟩:=zkS hS.toTyOk hG o3 o4 fn hres
        subst he
        cases e with
        | n=>exact⟨hda,v,v1,⟨v,rfl⟩,γ',o1,o2,o3⟩
        | r=>exact⟨hda,v,v1,⟨v,rfl⟩,γ',o1,o2,o3⟩
        | x i=>exact(hx' i rfl).elim)
      refine⟨trivial,fun c cs hm hroom=>?_⟩
      obtain⟨e,u',w',fr,⟨k1,k2,k3⟩,k4⟩:=hc.2 c cs hm hroom
      exact⟨e,u',w',fr,⟨k2,k1,k3⟩,k4⟩
     .cases hv
    .cases hv
   .cases hv
  .cases hv
theorem zfi(hS:SOk S){rec:Rc}(hR:zmF S rec){f:FuncId}{xs:List BV}{v:BV}(hv:zgu S rec f (S.fn f) xs h=some (v,h')):∀ (C:Ctx) (γ:Nat->Option G) (w:World) (vs:List Value),yC S C->Rel C γ h w->zm γ xs vs->
 zR S.P f=true/\Calls S.P f vs.toArray w fun e w'=>∃ z,e=.returned z/\Did C γ h v h' z w':=by
 intro C γ w vs hG r hx
 unfold zgu at hv
 split at hv
 .rename_i fn hf
  split at hv
  .rename_i c hb
   unfold zD5 at hv
   split at hv
   .cases hv
   .rename_i e s' hx' hrec
    split at hv
    .rename_i h1 hrun
     split at hv
     .rename_i l hres
      obtain⟨rfl,rfl⟩:zmi l=v/\h1=h':=by
       have:=Option.some.inj hv
       injection this with e1 e2
       exact⟨e1,e2⟩
      refine⟨ze9 hS hf hb,?_⟩
      have hb1:=zlV hS hR hf hb hrec hG r hx
      refine(callsIn_wide (n:=0)).1 (callsIn_of_wp_marks (hS.fn f fn hf).1 hb trivial (wpIn_mono hb1 fun x a' w' ⟨he,n,γ',o1,o2,o3,o4,o5,o6⟩=>?_))
      have hl:=zsb (zrm hS hR) hG fn a'.tmps s'.d s'.h h1 γ' w' a'.defers (fun e w'=>∃ z,e=.returned z/\Did C γ h (zmi l) h1 z w') hrun o3 o5 fun γ2 w2 e1 e2 e3=>by
       obtain⟨v,v1,v2⟩:=zkS hS.toTyOk hG e3 (yF.mono (o3.ext_le e1) o4) fn hres
       exact⟨v,v1,v,rfl,γ2,o1.trans e1 o2,Nat.le_trans o2 e2,v2,e3⟩
      subst he
      cases e with
      | n=>exact hl
      | r=>exact hl
      | x i=>exact(hx' i rfl).elim
     .cases hv
    .cases hv
   .cases hv
  .cases hv
 .cases hv
theorem zjz(hS:SOk S){rec:Rc}(hR:zmF S rec){f:FuncId}{xs:List BV}{v:BV}(hv:zdc S rec f xs h=some (v,h')):zg S f xs h v h':=by
 unfold zdc at hv
 split at hv
 .rename_i k hk
  rcases zk3 hv with hv|hv
  .exact hS.ext f k hk xs h v h' hv
  .exact body hv
 .exact body hv
 where
 body {f:FuncId} {xs:List BV} {v:BV} {h h':Hp} (hv:zgu S rec f (S.fn f) xs h=some (v,h')):zg S f xs h v h':=by
  intro C γ w vs hG r hx
  obtain⟨h1,h2⟩:=zfi hS hR hv C γ w vs hG r hx
  exact .inr ⟨ym h1 _ _,h2⟩
end Go.Bm
/-! Rounds of a range over a function. -/
namespace Go.Bm
open Go Go.RowKit
variable {S:zd}{γ γ':Nat->Option G}{C:Ctx}{h h':Hp}{w w':World}{σ:Tr BV}{a:Act}{P:Program}{rd:Option Nat}{A:Ca}{d:List Df}
structure zAw(γ:Nat->Option G)(w:World)(l:Nat)(σ:Tr BV)(ps:List Nat)(asg body:AC)(d:Nat)(g:G)(r:Loop)(nt:Nat):Prop where
 rec_:g.L=some r
 df:∃ gd,γ d=some gd/\r.defers=gd.b
 sl:yF γ σ r.tmps
 pars:r.params.toList=ps
 asgc:r.assign=asg.code
 bodyc:r.body=body.code
 le:nt<=r.tmps.size
 pn:∀ p ∈ ps,p<nt
 okA:okC nt true asg=true
 okB:okC nt true body=true
theorem Rel.loop(r:Rel C γ h w){l fn:Nat}{σ:Tr BV}{ps:List Nat}{asg body:AC}{d st:Nat}{pe:Option AC}(hl:h.get l=.lp fn σ ps asg body d st pe):
 ∃ g rr nt q,γ l=some g/\zAw γ w l σ ps asg body d g rr nt/\zpU q=st/\w.heap[g.b]?=some (.loop { rr with state:=q,pending:=pe.map AC.code })/\g.b<w.heap.size:=by
 have:=r.ob l
 rw[hl]at this
 obtain⟨g,gd,rr,nt,q,h1,h2,h3,h4,h5,h6,h7,h8,h9,h10,h11,h12,h13,h14⟩:=this
 exact⟨g,rr,nt,q,h1,⟨h2,⟨gd,h4,h7⟩,h5,h8,h9,h10,h11,h12,h13,h14⟩,h6,h3,(r.lo l g (by rw[hl];simp) h1).1⟩
theorem zAw.write(r:Rel C γ h w){l fn fn':Nat}{σ:Tr BV}{ps:List Nat}{asg body:AC}{d st st':Nat}{pe pe':Option AC}(hl:h.get l=.lp fn σ ps asg body d st pe){g:G}{rr:Loop}{nt:Nat}{q:LoopState}(hg:γ l=some g)(k:zAw γ w l σ ps asg body d g rr nt)
 (hlt:g.b<w.heap.size) (hq:zpU q=st') {rw':Loop} (he:rw'={ rr with state:=q,pending:=pe'.map AC.code }):Rel C γ (h.set l (.lp fn' σ ps asg body d st' pe')) (w.putObj g.b (.loop rw')):=by
 subst he
 obtain⟨gd,k1,k2⟩:=k.df
 refine r.write hg (by rw[hl];simp) rfl rfl rfl (by simp[World.putObj]) (fun b hb=>World.putObj_heap_other hb) ⟨g,gd,rr,nt,q,hg,k.rec_,?_,k1,k.sl,hq,k2,k.pars,k.asgc,k.bodyc,k.le,k.pn,k.okA,k.okB⟩
 simp[World.putObj,hlt]
theorem zxJ{q:LoopState}(h:zpU q=0):q=.ready:=by cases q <;> first|rfl|cases h
theorem zFJ{q:LoopState}(h:zpU q=1):q=.busy:=by cases q <;> first|rfl|cases h
theorem zDd{q:LoopState}(h:zpU q=2):q=.done:=by cases q <;> first|rfl|cases h
theorem zmZ:∀ (ps:List Nat) (xs:List BV) (σ σ1:Tr BV) (tm:Array Value) (vs:List Value),zxO σ ps xs=some σ1->yF γ σ tm->zm γ xs vs->(∀ p ∈ ps,p<tm.size)->
 yF γ σ1 ((ps.zip vs).foldl (fun tmps (p:Nat×Value)=>tmps.setIfInBounds p.1 p.2) tm)/\((ps.zip vs).foldl (fun tmps (p:Nat×Value)=>tmps.setIfInBounds p.1 p.2) tm).size=tm.size/\ps.length=vs.length
 | [],[],σ,σ1,tm,vs,h,hs,hx,_=>by
  cases h;cases hx.nil_inv;exact⟨hs,rfl,rfl⟩
 | p::ps,x::xs,σ,σ1,tm,vs,h,hs,hx,hp=>by
  obtain⟨v,vs',rfl,h1,h2⟩:=hx.cons_inv
  have hlt:=hp p (by simp)
  have:=zmZ ps xs (σ.set p x) σ1 (tm.setIfInBounds p v) vs' h (za2 (a:=⟨tm,[]⟩) (dst:=some p) (fun d hd=>by cases hd;exact hlt) hs h1) h2 (fun q hq=>by simp;exact hp q (by simp[hq]))
  refine⟨this.1,by rw[List.zip_cons_cons,List.foldl_cons];rw[this.2.1];simp,by simp[this.2.2]⟩
 | [],_::_,_,_,_,_,h,_,_,_=>by cases h
 | _::_,[],_,_,_,_,h,_,_,_=>by cases h
theorem zwt{l:Nat}{h:Hp}{st:Nat}{b:Bool}{pe:Option AC}{ds:List Df}{v:BV}(hv:zwu l h st b pe ds=some (v,h')):
 ds=[]/\v=.b b/\∃ fn σ ps asg body d,h.get l=.lp fn σ ps asg body d 1 none/\h'=h.set l (.lp fn σ ps asg body d st pe):=by
 unfold zwu at hv
 split at hv
 .split at hv
  .rename_i fn σ ps asg body d hl
   have hv:=Option.some.inj hv
   injection hv with e1 e2
   exact⟨rfl,e1.symm,fn,σ,ps,asg,body,d,hl,e2.symm⟩
  .cases hv
 .cases hv
theorem zoo{rec:Rc}(hR:zmF S rec){l:Nat}{xs:List BV}{v:BV}(hv:zeS rec l xs h=some (v,h')):zu9 S l xs h v h':=by
 intro C γ w vs g hG r hx hg
 unfold zeS at hv
 split at hv
 .rename_i fn σ ps asg body d hl
  obtain⟨g',rr,nt,q,hg',k,hq,hh,hlt⟩:=r.loop hl
  rw[hg]at hg';cases hg'
  have:=zxJ hq
  subst this
  split at hv
  .rename_i σ1 hps
   obtain⟨s1r,s1s,s1l⟩:=zmZ ps xs σ σ1 rr.tmps vs hps k.sl hx (fun p hp=>Nat.lt_of_lt_of_le (k.pn p hp) k.le)
   have hfold:((rr.params.zip vs.toArray).foldl (fun(tmps:Array Value) ((t,a):Tmp×Value)=>tmps.setIfInBounds t a) rr.tmps)=((ps.zip vs).foldl (fun tmps (p:Nat×Value)=>tmps.setIfInBounds p.1 p.2) rr.tmps):=by
    rw[<-Array.foldl_toList,Array.toList_zip,k.pars]
   refine⟨{ rr with state:=.ready,pending:=none },hh,by rw[<-s1l,<-k.pars];simp,?_⟩
   show RoundIn (FW none) 0 S.P g.b rr.fn ((rr.params.zip vs.toArray).foldl (fun(tmps:Array Value) ((t,a):Tmp×Value)=>tmps.setIfInBounds t a) rr.tmps) rr.assign rr.body w _
   rw[hfold]
   generalize hrr:({ rr with state:=.ready,pending:=none }:Loop)=r0
   have e1:rr.fn=r0.fn:=by rw[<-hrr]
   have e2:rr.assign=r0.assign:=by rw[<-hrr]
   have e3:rr.body=r0.body:=by rw[<-hrr]
   rw[e1,e2,e3]
   refine RoundIn.mono (zkQ (r:=r0) (R:=fun jump W3=>∃ γ',Ext h.nx γ γ'/\h.nx<=h'.nx/\zf γ' v (.bool jump.isNone)/\Rel C γ' h' (W3.putObj g.b (.loop { r0 with state:=if jump.isNone then .ready else .done,pending:=jump }))) (by rw[<-hrr]) ?_)
    (fun e W' ⟨jump,W3,he,hW,γ',o1,o2,o3,o4⟩=>⟨_,he,γ',o1,o2,o3,by rw[hW];exact o4⟩)
   split at hv
   .rename_i s1 hrec1
    have h1:=hR nt asg _ _ _ hrec1 C γ { tmps:=(ps.zip vs).foldl (fun tmps (p:Nat×Value)=>tmps.setIfInBounds p.1 p.2) rr.tmps,defers:=[] } w (some g.b) k.okA (by dsimp only;rw[s1s];exact k.le) hG r s1r .nil
    rw[show asg.code=r0.assign from k.asgc.symm.trans e2]at h1
    refine wpIn_mono h1 fun x a1 W1 ⟨hx1,γ1,o1,o2,o3,o4,o5,o6⟩=>?_
    subst hx1
    split at hv
    .rename_i fn' σ' ps' asg' body' d' hl1
     obtain⟨g1,rr1,nt1,q1,hg1,k1,hq1,hh1,hlt1⟩:=o3.loop hl1
     have hgg:γ1 l=some g:=r.ext_le o1 l g hg
     rw[hgg]at hg1;cases hg1
     have hL:=k1.rec_
     rw[k.rec_]at hL
     obtain rfl:=Option.some.inj hL
     have:=zxJ hq1
     subst this
     have hW1:W1.heap[g.b]?=some (.loop r0):=by rw[<-hrr];exact hh1
     refine⟨hW1,?_⟩
     have r1:Rel C γ1 (s1.h.set l (.lp fn' σ' ps' asg' body' d' 1 none)) (W1.putObj g.b (.loop { r0 with state:=.busy })):=zAw.write (q:=.busy) (pe':=none) (rw':={ r0 with state:=.busy }) o3 hl1 hgg k1 hlt1 rfl (by rw[<-hrr];rfl)
     have step:∀ (e:Ex) (s2:St),rec body' ⟨s1.σ,s1.h.set l (.lp fn' σ' ps' asg' body' d' 1 none),s1.d⟩=some (e,s2)->∀ (st:Nat) (b:Bool) (pe:Option AC) (jump:Option Code),zwu l s2.h st b pe s2.d=some (v,h')->jump=pe.map AC.code->b=jump.isNone->zpU (if jump.isNone then .ready else .done)=st->
      (∀ (a2:Act) (W2:World),W2.heap[g.b]?=some (.loop { r0 with state:=.busy })->(∃ γ',Ext h.nx γ γ'/\h.nx<=h'.nx/\zf γ' v (.bool jump.isNone)/\Rel C γ' h' (W2.putObj g.b (.loop { r0 with state:=if jump.isNone then .ready else .done,pending:=jump })))->zhd g.b r0 (fun jump W3=>∃ γ',Ext h.nx γ γ'/\h.nx<=h'.nx/\zf γ' v (.bool jump.isNone)/\Rel C γ' h' (W3.putObj g.b (.loop { r0 with state:=if jump.isNone then .ready else .done,pending:=jump }))) (zeO e) a2 W2)->
      r0.body.wpIn (FW (some g.b)) 0 S.P (zhd g.b r0 (fun jump W3=>∃ γ',Ext h.nx γ γ'/\h.nx<=h'.nx/\zf γ' v (.bool jump.isNone)/\Rel C γ' h' (W3.putObj g.b (.loop { r0 with state:=if jump.isNone then .ready else .done,pending:=jump })))) a1 (W1.putObj g.b (.loop { r0 with state:=.busy })):=by
      intro e s2 hrec2 st b pe jump hend hj hb hst hpost
      obtain⟨hd2,rfl,fn2,σ2,ps2,asg2,body2,d2,hl2,rfl⟩:=zwt hend
      have h2:=hR nt1 body' _ _ _ hrec2 C γ1 a1 (W1.putObj g.b (.loop { r0 with state:=.busy })) (some g.b) k1.okB (by rw[o6];dsimp only;rw[s1s];exact k1.le) hG r1 o4 o5
      rw[show body'.code=r0.body from k1.bodyc.symm.trans e3]at h2
      refine wpIn_mono h2 fun x a2 W2 ⟨hx2,γ2,u1,u2,u3,u4,u5,u6⟩=>?_
      subst hx2
      obtain⟨g2,rr2,nt2,q2,hg2,k2,hq2,hh2,hlt2⟩:=u3.loop hl2
      have hgg2:γ2 l=some g:=r1.ext_le u1 l g hgg
      rw[hgg2]at hg2;cases hg2
      have hL2:=k2.rec_
      rw[k.rec_]at hL2
      obtain rfl:=Option.some.inj hL2
      have:=zFJ hq2
      subst this
      refine hpost a2 W2 (by rw[<-hrr];exact hh2) ⟨γ2,o1.trans u1 o2,Nat.le_trans o2 u2,by rw[<-hb];exact .b _,?_⟩
      exact zAw.write (q:=if jump.isNone then .ready else .done) (pe':=pe) (rw':={ r0 with state:=if jump.isNone then .ready else .done,pending:=jump }) u3 hl2 hgg2 k2 hlt2 hst (by rw[<-hrr,hj])
     split at hv
     .rename_i s2 hrec2
      exact step _ _ hrec2 _ _ _ none hv rfl rfl rfl fun a2 W2 p1 p2=>⟨p1,p2⟩
     .rename_i i s2 hrec2
      exact step _ _ hrec2 _ _ _ (some (.exit i)) hv rfl rfl rfl fun a2 W2 p1 p2=>⟨p1,p2⟩
     .rename_i s2 hrec2
      exact step _ _ hrec2 _ _ _ (some .ret) hv rfl rfl rfl fun a2 W2 p1 p2=>⟨p1,p2⟩
     .cases hv
    .cases hv
   .cases hv
  .cases hv
 .cases hv
end Go.Bm
/-! The machine runs as the model does. -/
namespace Go.Bm
open Go Go.RowKit
variable {S:zd}{γ γ':Nat->Option G}{C:Ctx}{h h':Hp}{w w':World}{σ:Tr BV}{a:Act}{P:Program}{rd:Option Nat}{A:Ca}{d:List Df}
theorem zz8(hS:SOk S){rec:Rc}(hR:zmF S rec):zmH S ⟨zdc S rec,zeS rec⟩:=
 ⟨fun _ _ _ _ _ hv=>zjz hS hR hv,fun _ _ _ _ _ hv=>zoo hR hv⟩
theorem zpf(hS:SOk S){rec:Rc}(hR:zmF S rec){nt:Nat}{g:Operand}{ps:Array Tmp}{asg body:AC}{s s':St}{e:Ex}(hv:ztk g ps asg body S rec s=some (e,s'))
 (hok:okC nt rd.isSome (.rng g ps asg body)=true) (hnt:nt<=a.tmps.size) (hG:yC S C) (r:Rel C γ s.h w) (hs:yF γ s.σ a.tmps) (hd:DRs γ s.d a.defers):
 (Code.rangeFunc g ps asg.code body.code).wpIn (FW rd) 0 S.P (fun x a' w'=>x=zeO e/\Out C γ s.h a.tmps.size s' a' w') a w:=by
 cases rd with
 | some l=>simp[okC]at hok
 | none=>
  have hok:and (zpm (fun p=>Nat.blt p nt) ps.toList) (and (okC nt true asg) (okC nt true body))=true:=hok
  rw[Bool.and_eq_true,Bool.and_eq_true]at hok
  unfold ztk at hv
  split at hv
  .rename_i gf cs hgf
   have hgr:=zo hs g
   rw[hgf]at hgr
   generalize hq:a.eval g=q at hgr
   cases hgr with|f _ _ _ vf lb h1 h2=>
   have hvf:vf=#[]:=by
    have:=h1.nil_inv
    apply Array.ext';simpa using this
   subst hvf
   split at hv
   .rename_i z h2' hcall
    have D1:zdl w (w.alloc (.deferred (some []))) ⟨w.heap.size,0,0,none,[]⟩:=zdl.alloc _ _ _ _
    have hu:γ s.h.nx=none:=r.us _ (Nat.le_refl _)
    have r1:Rel C (upd γ s.h.nx (some ⟨w.heap.size,0,0,none,[]⟩)) (s.h.new .df) (w.alloc (.deferred (some []))):=r.birth D1.os D1.tape D1.output D1.lo D1.hi D1.old ⟨_,zc _ _ _,zbD _ _⟩
    have hγ1:=zd8 hu ⟨w.heap.size,0,0,none,[]⟩
    have hcb:=fn_callable' hS hcall
    refine zbH hq hcb fun fn mkR hmk=>?_
    have hu1:(upd γ s.h.nx (some ⟨w.heap.size,0,0,none,[]⟩)) (s.h.new .df).nx=none:=r1.us _ (Nat.le_refl _)
    have hnx1:(s.h.new .df).nx=s.h.nx+1:=Hp.new_nx _ _
    have hsz:(w.alloc (.deferred (some []))).heap.size=w.heap.size+1:=by simp
    have hγ2:=zd8 hu1 ⟨w.heap.size+1,0,0,some (mkR .ready none),[]⟩
    have hD:(upd (upd γ s.h.nx (some ⟨w.heap.size,0,0,none,[]⟩)) (s.h.new .df).nx (some ⟨w.heap.size+1,0,0,some (mkR .ready none),[]⟩)) s.h.nx=some ⟨w.heap.size,0,0,none,[]⟩:=by
     rw[zh _ _ (by rw[hnx1];omega),zc]
    have hos:OM (upd (upd γ s.h.nx (some ⟨w.heap.size,0,0,none,[]⟩)) (s.h.new .df).nx (some ⟨w.heap.size+1,0,0,some (mkR .ready none),[]⟩)) ((w.alloc (.deferred (some []))).alloc (.loop (mkR .ready none))) (s.h.new .df).nx (.lp 0 s.σ ps.toList asg body s.h.nx 0 none):=by
     refine⟨_,⟨w.heap.size,0,0,none,[]⟩,mkR .ready none,nt,.ready,zc _ _ _,rfl,?_,hD,?_,rfl,by rw[hmk],by rw[hmk],by rw[hmk],by rw[hmk],by rw[hmk];exact hnt,fun p hp=>zS (zcN hok.1 p hp),hok.2.1,hok.2.2⟩
     .have:=zbD (w.alloc (.deferred (some []))) (.loop (mkR .ready none))
      rw[hsz]at this
      rw[this,hmk];rfl
     .rw [show(mkR .ready none).tmps=a.tmps by rw[hmk]];exact yF.mono (fun b o x=>hγ2 b o (hγ1 b o x)) hs
    have r2:=r1.birth (w':=(w.alloc (.deferred (some []))).alloc (.loop (mkR .ready none))) (g:=⟨w.heap.size+1,0,0,some (mkR .ready none),[]⟩) rfl rfl rfl (by rw[hsz];exact Nat.le_refl _) (by simp) (fun b hb=>Below.heap_alloc _ _ b hb) hos
    have hyr:zm (upd (upd γ s.h.nx (some ⟨w.heap.size,0,0,none,[]⟩)) (s.h.new .df).nx (some ⟨w.heap.size+1,0,0,some (mkR .ready none),[]⟩)) (.y (Nat.succ s.h.nx)::cs) (.func (.yield (w.heap.size+1)) #[] #[]::lb.toList):=
     .cons (.y _ ⟨w.heap.size+1,0,0,some (mkR .ready none),[]⟩ (by rw[hnx1];exact zc _ _ _)) (zm.mono (fun b o x=>hγ2 b o (hγ1 b o x)) h2)
    have hc:=(zfi hS hR hcall C _ _ _ hG r2 hyr).2
    have ea:(Value.func (.yield (w.heap.size+1)) #[] #[]::lb.toList).toArray=#[.func (.yield (w.heap.size+1)) #[] #[]]++lb:=by apply Array.ext';simp
    rw[ea]at hc
    refine hc.mono fun e2 W2 ⟨z2,he2,γ3,x1,x2,x3,x4⟩=>⟨⟨z2,he2⟩,?_⟩
    have hH:((s.h.new .df).new (.lp 0 s.σ ps.toList asg body s.h.nx 0 none)).nx=s.h.nx+2:=by rw[Hp.new_nx,hnx1]
    have hL3:γ3 (Nat.succ s.h.nx)=some ⟨w.heap.size+1,0,0,some (mkR .ready none),[]⟩:=by
     rw[x1 _ (by rw[hH];omega),hnx1];exact zc _ _ _
    have hD3:γ3 s.h.nx=some ⟨w.heap.size,0,0,none,[]⟩:=by rw[x1 _ (by rw[hH];omega)];exact hD
    have hext:Ext s.h.nx γ γ3:=fun id hi=>by
     rw[x1 _ (by rw[hH];omega),zh _ _ (by rw[hnx1];omega),zh _ _ (by omega)]
    have hle:GLe γ γ3:=r.ext_le hext
    have out:∀ (st:Nat) (pe:Option AC) (lf:Nat) (lσ:Tr BV) (lps:List Nat) (la lb:AC) (ld:Nat),h2'.get (Nat.succ s.h.nx)=.lp lf lσ lps la lb ld st pe->∃ q,zpU q=st/\W2.heap[w.heap.size+1]?=some (.loop (mkR q (pe.map AC.code)))/\
     ∀ rw',Out C γ s.h a.tmps.size ⟨s.σ,h2'.set (Nat.succ s.h.nx) .x,.mark s.h.nx::s.d⟩ { a with defers:=zb0 w.heap.size::a.defers } (W2.putObj (w.heap.size+1) (.loop rw')):=by
     intro st pe lf lσ lps la lb ld hget
     obtain⟨g',rr,nt',q,k1,k2,k3,k4,k5⟩:=x4.loop hget
     rw[hL3]at k1;cases k1
     obtain rfl:=Option.some.inj k2.rec_
     refine⟨q,k3,by rw[k4,hmk],fun rw'=>⟨γ3,hext,?_,?_,yF.mono hle hs,.cons (.mark _ _ hD3) (hd.mono hle),rfl⟩⟩
     .show s.h.nx<=h2'.nx
      rw[hH]at x2;omega
     .exact x4.write hL3 (by rw[hget];simp) rfl rfl rfl (by simp[World.putObj]) (fun b hb=>World.putObj_heap_other hb) trivial
    split at hv
    .rename_i hget
     have hv:=Option.some.inj hv
     injection hv with e1 e2
     subst e1 e2
     obtain⟨q,q1,q2,q3⟩:=out _ _ _ _ _ _ _ _ hget
     have:=zxJ q1
     subst this
     exact .inl ⟨q2,rfl,q3 _⟩
    .rename_i i hget
     have hv:=Option.some.inj hv
     injection hv with e1 e2
     subst e1 e2
     obtain⟨q,q1,q2,q3⟩:=out _ _ _ _ _ _ _ _ hget
     have:=zDd q1
     subst this
     exact .inr ⟨.exit i,q2,wpIn_exit ⟨rfl,q3 _⟩⟩
    .rename_i hget
     have hv:=Option.some.inj hv
     injection hv with e1 e2
     subst e1 e2
     obtain⟨q,q1,q2,q3⟩:=out _ _ _ _ _ _ _ _ hget
     have:=zDd q1
     subst this
     exact .inr ⟨.ret,q2,wpIn_ret ⟨rfl,q3 _⟩⟩
    .cases hv
   .cases hv
  .cases hv
 where
 fn_callable' {S:zd} (hS:SOk S) {rec:Rc} {f:FuncId} {xs:List BV} {h h':Hp} {v:BV} (hv:zgu S rec f (S.fn f) xs h=some (v,h')):zR S.P f=true:=by
  unfold zgu at hv
  split at hv
  .rename_i fn hf
   split at hv
   .rename_i c hb
    exact ze9 hS hf hb
   .cases hv
  .cases hv
theorem zks{k:St->Option (Ex×St)}{r:Option (Ex×St)}{e:Ex}{s':St}(h:thn k r=some (e,s')):(∃ s1,r=some (.n,s1)/\k s1=some (e,s'))\/(r=some (e,s')/\zeO e≠.normal):=by
 unfold thn at h
 split at h
 .exact .inl ⟨_,rfl,h⟩
 .rename_i r' hne
  cases e with
  | n=>exact(hne s' h).elim
  | x i=>exact .inr ⟨h,by simp[zeO]⟩
  | r=>exact .inr ⟨h,by simp[zeO]⟩
theorem zcO{next:Act->World->Prop}{Q:Exit->Act->World->Prop}{x:Exit}{a':Act}{w':World}(hx:x≠.normal)(h:Q x a' w'):Exit.then next Q x a' w':=by
 cases x <;> first|exact h|exact absurd rfl hx
theorem zqW(hS:SOk S)(hD:ztI S):∀ n,zmF S (ev S n):=by
 intro n
 induction n using Nat.strongRecOn with
 | _ n ih=>
  cases n with
  | zero=>intro nt c s e s' hv;cases hv
  | succ n=>
   have hR:zmF S (ev S n):=ih n (Nat.lt_succ_self n)
   have hA:=zz8 hS hR
   intro nt c s e s' hv C γ a w rd hok hnt hG r hs hd
   have hv:zzu S (ev S n) c s=some (e,s'):=hv
   have here:s'=s->e=.n->Out C γ s.h a.tmps.size s' a w:=fun h _=>by subst h;exact⟨γ,Ext.refl _ _,Nat.le_refl _,r,hs,hd,rfl⟩
   cases c with
   | skip=>
    have hv:=Option.some.inj (show some (Ex.n,s)=some (e,s') from hv)
    injection hv with e1 e2
    subst e1 e2
    exact wpIn_skip ⟨rfl,here rfl rfl⟩
   | label l=>
    have hv:=Option.some.inj (show some (Ex.n,s)=some (e,s') from hv)
    injection hv with e1 e2
    subst e1 e2
    exact wpIn_label ⟨rfl,here rfl rfl⟩
   | exit i=>
    have hv:=Option.some.inj (show some (Ex.x i,s)=some (e,s') from hv)
    injection hv with e1 e2
    subst e1 e2
    exact wpIn_exit ⟨rfl,γ,Ext.refl _ _,Nat.le_refl _,r,hs,hd,rfl⟩
   | ret=>
    have hv:=Option.some.inj (show some (Ex.r,s)=some (e,s') from hv)
    injection hv with e1 e2
    subst e1 e2
    exact wpIn_ret ⟨rfl,γ,Ext.refl _ _,Nat.le_refl _,r,hs,hd,rfl⟩
   | bad c=>cases hv
   | reg id ops draw pl=>exact ztj hS.toVOk hD hA hv hok hnt hG r hs hd
   | rng g ps asg body=>exact zpf hS hR hv hok hnt hG r hs hd
   | scope c=>
    have h1:=hR nt c s e s' hv C γ a w rd hok hnt hG r hs hd
    refine zaa (wpIn_mono h1 fun x a' w' ⟨hx,ho⟩=>?_)
    subst hx
    cases e <;> exact⟨rfl,ho⟩
   | seq c1 c2=>
    have hok:and (okC nt rd.isSome c1) (okC nt rd.isSome c2)=true:=by simpa[okC]using hok
    rw[Bool.and_eq_true]at hok
    have hv:thn (ev S n c2) (ev S n c1 s)=some (e,s'):=hv
    refine wpIn_seq ?_
    rcases zks hv with⟨s1,h1,h2⟩|⟨h1,hne⟩
    .refine wpIn_mono (hR nt c1 s _ _ h1 C γ a w rd hok.1 hnt hG r hs hd) fun x a1 w1 ⟨hx,γ1,o1,o2,o3,o4,o5,o6⟩=>?_
     subst hx
     exact wpIn_mono (hR nt c2 s1 _ _ h2 C γ1 a1 w1 rd hok.2 (by rw[o6];exact hnt) hG o3 o4 o5) fun x a2 w2 ⟨hx,ho⟩=>⟨hx,ho.trans o1 o2 o6⟩
    .refine wpIn_mono (hR nt c1 s _ _ h1 C γ a w rd hok.1 hnt hG r hs hd) fun x a1 w1 ⟨hx,ho⟩=>?_
     exact zcO (by rw[hx];exact hne) ⟨hx,ho⟩
   | cond c c1 c2=>
    have hok:and (okC nt rd.isSome c1) (okC nt rd.isSome c2)=true:=by simpa[okC]using hok
    rw[Bool.and_eq_true]at hok
    have hv:zDy (opv s.σ c) c1 c2 (ev S n) s=some (e,s'):=hv
    have hc:=zo hs c
    generalize hq:opv s.σ c=q at hv hc
    cases q <;> (try (cases hv;done))
    rename_i b
    generalize hz:a.eval c=z at hc
    cases hc
    refine wpIn_cond_split hz (fun hb=>?_) (fun hb=>?_)
    .subst hb;exact hR nt c1 s e s' hv C γ a w rd hok.1 hnt hG r hs hd
    .subst hb;exact hR nt c2 s e s' hv C γ a w rd hok.2 hnt hG r hs hd
   | block i c=>
    have hok:okC nt rd.isSome c=true:=by simpa[okC]using hok
    have hv:(match ev S n c s with
     | some (.x j,s')=>match Nat.beq j i with|true=>some (.n,s')|false=>some (.x j,s')
     | r=>r)=some (e,s'):=hv
    refine wpIn_block ?_
    split at hv
    .rename_i j s1 h1
     have hv2:=hv
     refine wpIn_mono (hR nt c s _ _ h1 C γ a w rd hok hnt hG r hs hd) fun x a1 w1 ⟨hx,ho⟩=>?_
     subst hx
     cases hb:Nat.beq j i with
     | true=>
      rw[hb]at hv2
      have:=Nat.eq_of_beq_eq_true hb
      subst this
      have hv:=Option.some.inj hv2
      injection hv with e1 e2
      subst e1 e2
      show Exit.inBlock j _ (.exit j) a1 w1
      simp only[Exit.inBlock,if_true]
      exact⟨rfl,ho⟩
     | false=>
      rw[hb]at hv2
      have hne:=Nat.ne_of_beq_eq_false hb
      have hv:=Option.some.inj hv2
      injection hv with e1 e2
      subst e1 e2
      show Exit.inBlock i _ (.exit j) a1 w1
      simp only[Exit.inBlock,if_neg hne]
      exact⟨rfl,ho⟩
    .rename_i h1
     refine wpIn_mono (hR nt c s _ _ hv C γ a w rd hok hnt hG r hs hd) fun x a1 w1 ⟨hx,ho⟩=>?_
     subst hx
     cases e with
     | n=>exact⟨rfl,ho⟩
     | r=>exact⟨rfl,ho⟩
     | x j=>exact(h1 j s' hv).elim
   | loop c=>
    have hok:okC nt rd.isSome c=true:=by simpa[okC]using hok
    refine zbu (fun m a' w'=>∃ s1 γ1,m<=n+1/\ev S m (.loop c) s1=some (e,s')/\Ext s.h.nx γ γ1/\s.h.nx<=s1.h.nx/\Rel C γ1 s1.h w'/\yF γ1 s1.σ a'.tmps/\DRs γ1 s1.d a'.defers/\a'.tmps.size=a.tmps.size) ?_ (n+1)
     ⟨s,γ,Nat.le_refl _,hv,Ext.refl _ _,Nat.le_refl _,r,hs,hd,rfl⟩
    rintro m a1 w1 ⟨s1,γ1,hm,hv1,o1,o2,o3,o4,o5,o6⟩
    cases m with
    | zero=>cases hv1
    | succ m=>
     have hv1:thn (ev S m (.loop c)) (ev S m c s1)=some (e,s'):=hv1
     have hRm:=ih m (by omega)
     rcases zks hv1 with⟨s2,h1,h2⟩|⟨h1,hne⟩
     .refine wpIn_mono (hRm nt c s1 _ _ h1 C γ1 a1 w1 rd hok (by rw[o6];exact hnt) hG o3 o4 o5) fun x a2 w2 ⟨hx,γ2,p1,p2,p3,p4,p5,p6⟩=>?_
      subst hx
      exact⟨m,Nat.lt_succ_self m,s2,γ2,by omega,h2,o1.trans p1 o2,Nat.le_trans o2 p2,p3,p4,p5,by rw[p6,o6]⟩
     .refine wpIn_mono (hRm nt c s1 _ _ h1 C γ1 a1 w1 rd hok (by rw[o6];exact hnt) hG o3 o4 o5) fun x a2 w2 ⟨hx,ho⟩=>?_
      exact zcO (by rw[hx];exact hne) ⟨hx,ho.trans o1 o2 o6⟩
end Go.Bm
