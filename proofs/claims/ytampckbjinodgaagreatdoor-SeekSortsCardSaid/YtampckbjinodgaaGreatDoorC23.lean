/-
  Lifted functions, and facts about them.
-/
import Derived.Test.YtampckbjinodgaaGreatDoorRows
import Derived.Test.YtampckbjinodgaaGreatDoorAmC
import Derived.Test.YtampckbjinodgaaGreatDoorC19
import Derived.Test.YtampckbjinodgaaGreatDoorC22
namespace Go.Proofs.YtampckbjinodgaaGreatDoor
open Go Go.Am
set_option linter.unusedVariables false
theorem gd_ne {l:List Int} {i j:Nat} {v:Int} (h:i≠j):(l.set i v).getD j 0=l.getD j 0:=by
 rw [List.getD_eq_getElem?_getD,List.getElem?_set_ne h,<-List.getD_eq_getElem?_getD]
theorem kidsR_all (i:Int):∀ (ks acc out:List Int),kidsR i ks acc=some out->∀ x ∈ ks,0<=x/\x < i
 | [],_,_,_,_,hx=>by cases hx
 | k::r,acc,out,h,x,hx=>by
  rw [kidsR] at h
  split at h
  .cases h
  .rename_i hc
   rcases List.mem_cons.1 hx with rfl | hx
   .omega
   .exact kidsR_all i r _ out h x hx
theorem goR_all:∀ (r:List TermT) (i:Nat) (acc out:List Int),goR i r acc=some out->∀ j,j < r.length->(1<=(r.getD j dT).1/\(r.getD j dT).1<=16)/\∀ x ∈ (r.getD j dT).2.2.2.2.2,0<=x/\x < ((i+j:Nat):Int)
 | [],_,_,_,_,j,hj=>by simp at hj
 | t::r,i,acc,out,h,j,hj=>by
  rw [goR] at h
  split at h
  .cases h
  .rename_i hc
   split at h
   .cases h
   .rename_i acc' hk
    cases j with
    | zero=>exact ⟨by show 1<=t.1/\t.1<=16; omega,fun x hx=>kidsR_all _ _ _ _ hk x hx⟩
    | succ j=>
     have:=goR_all r (i+1) acc' out h j (by simpa using hj)
     rw [show i+(j+1)=i+1+j by omega]
     exact this
theorem kidsR_top (i:Int):∀ (ks acc out:List Int),kidsR i ks acc=some out->∀ j:Nat,i<=(j:Int)->out.getD j 0=acc.getD j 0
 | [],acc,out,h,_,_=>by cases h; rfl
 | k::r,acc,out,h,j,hj=>by
  rw [kidsR] at h
  split at h
  .cases h
  .rename_i hc
   rw [kidsR_top i r _ out h j hj,gd_ne (by omega)]
theorem goR_top:∀ (r:List TermT) (i:Nat) (acc out:List Int),goR i r acc=some out->∀ j,i+r.length<=j+1->out.getD j 0=acc.getD j 0
 | [],i,acc,out,h,_,_=>by cases h; rfl
 | t::r,i,acc,out,h,j,hj=>by
  rw [List.length_cons] at hj
  rw [goR] at h
  split at h
  .cases h
  .split at h
   .cases h
   .rename_i acc' hk
    rw [goR_top r (i+1) acc' out h j (by omega),kidsR_top _ _ _ _ hk j (by omega)]
theorem right_spec {f:List TermT} (h:rightP f=true):f.length<=40/\∃ acc,goR 0 f (List.replicate f.length 0)=some acc/\acc.length=f.length/\(∀ j,j+1 < f.length->acc.getD j 0=1)/\(∀ j,f.length=j+1->acc.getD j 0=0):=by
 unfold rightP at h
 split at h
 .cases h
 .rename_i hl
  cases hg:goR 0 f (List.replicate f.length 0) with
  | none=>rw [hg] at h; cases h
  | some acc=>
   rw [hg] at h
   have hlen:=goR_len _ _ _ _ hg
   rw [List.length_replicate] at hlen
   refine ⟨by omega,acc,rfl,hlen,fun j hj=>?_,fun j hj=>?_⟩
   .have hm:acc.getD j 0 ∈ acc.take (f.length - 1):=by
     have hlt:j < (acc.take (f.length - 1)).length:=by rw [List.length_take]; omega
     have:=getD_mem hlt (0:Int)
     rwa [List.getD_eq_getElem?_getD,List.getElem?_take_of_lt (by omega),<-List.getD_eq_getElem?_getD] at this
    exact beq_iff_eq.1 (List.all_eq_true.1 h _ hm)
   .rw [goR_top _ _ _ _ hg j (by omega),List.getD_eq_getElem?_getD,List.getElem?_replicate]
    split <;> rfl
abbrev KidsOk (f:List TermT):Prop:=∀ i,i < f.length->∀ x ∈ (f.getD i dT).2.2.2.2.2,0<=x/\x < (i:Int)
theorem right_kids {f:List TermT} (h:rightP f=true):KidsOk f:=by
 obtain ⟨_,acc,hg,_⟩:=right_spec h
 intro i hi x hx
 have:=(goR_all _ _ _ _ hg i hi).2 x hx
 rwa [Nat.zero_add] at this
theorem hGok_of {p:OpenT} {f:List TermT} (hk:KidsOk f) (hl:∀ t ∈ f,leafok p t/\t.2.2.2.2.2.length<=1000000):∀ (k i:Nat),i < k->i < f.length->hGok k p f (i:Int)
 | 0,_,h,_=>by omega
 | k+1,i,h,hi=>by
  have hm:f.getD i dT ∈ f:=getD_mem hi _
  rw [hGok,Int.toNat_natCast]
  refine ⟨⟨by omega,by omega⟩,(hl _ hm).1,fun _=>⟨(hl _ hm).2,fun x hx=>?_⟩⟩
  have hx2:=hk i hi x hx
  obtain ⟨y,rfl⟩:=Int.eq_ofNat_of_zero_le hx2.1
  exact hGok_of hk hl k y (by omega) (by omega)
abbrev smallM (m:MailT):Prop:=m.2.2.1.length<=1000/\m.2.2.2.2.1.length<=40/\m.2.2.2.2.2.1.length<=20
abbrev smallT (t:TermT):Prop:=t.2.2.2.1.length<=300/\t.2.2.1.length<=300/\t.2.2.2.2.1.length<=60/\t.2.2.2.2.2.length<=60
theorem leaf_of {m:MailT} {t:TermT} (hm:smallM m) (ht:smallT t):leafok (openP m) t:=by
 obtain ⟨m1,m2,m3⟩:=hm
 obtain ⟨t1,t2,t3,t4⟩:=ht
 have h1:=splitS_len m.2.2.1 0 (m.2.2.1.length:Int)
 refine ⟨by show m.2.2.2.2.2.1.length<=_; omega,by show m.2.2.2.2.1.length<=_; omega,by omega,by show (m.2.2.1.drop _).length<=_; rw [List.length_drop]; omega,by omega,by show (splitS m.2.2.1 0 (m.2.2.1.length:Int)).1.length<=_; omega,fun g hg=>?_⟩
 have h2:=splitS_elem m.2.2.1 0 (m.2.2.1.length:Int) g hg
 exact ⟨by omega,by omega,by omega,by omega⟩
theorem holdok_of {f:List TermT} {m:MailT} (hm:smallM m) (ht:∀ t ∈ f,smallT t) (hl:f.length<=40):holdok f m:=by
 refine ⟨⟨by omega,fun t h=>by have:=(ht t h).2.2.2; omega⟩,by have:=hm.1; omega,fun hr hn=>?_⟩
 obtain ⟨n,hn⟩:∃ n,f.length=n+1:=⟨f.length - 1,by omega⟩
 rw [show ((f.length:Int) - 1)=(n:Int) by omega]
 exact hGok_of (right_kids hr) (fun t h=>⟨leaf_of hm (ht t h),by have:=(ht t h).2.2.2; omega⟩) 41 n (by omega) (by omega)
theorem small_of {l:List MailT} {f:List TermT} {o:List (Elt ordC)} (h:greatP l f o=false):(∀ m ∈ l,smallM m)/\(∀ t ∈ f,smallT t)/\l.length<=30/\f.length<=60/\o.length<=10:=by
 unfold greatP at h
 simp only [Bool.or_eq_false_iff,decide_eq_false_iff_not] at h
 obtain ⟨⟨⟨h1,h2⟩,h3⟩,h4,h5⟩:=h
 refine ⟨fun m hm=>?_,fun t ht=>?_,by omega,by omega,by omega⟩
 .have h6:bigM m=false:=by
   cases hc:bigM m with
   | false=>rfl
   | true=>rw [List.any_eq_true.2 ⟨m,hm,hc⟩] at h4; cases h4
  unfold bigM at h6
  simp only [Bool.or_eq_false_iff,decide_eq_false_iff_not] at h6
  exact ⟨by omega,by omega,by omega⟩
 .have h6:bigT t=false:=by
   cases hc:bigT t with
   | false=>rfl
   | true=>rw [List.any_eq_true.2 ⟨t,ht,hc⟩] at h5; cases h5
  unfold bigT at h6
  simp only [Bool.or_eq_false_iff,decide_eq_false_iff_not] at h6
  exact ⟨by omega,by omega,by omega,by omega⟩
end Go.Proofs.YtampckbjinodgaaGreatDoor
namespace Go.Proofs.YtampckbjinodgaaGreatDoor
open Go Go.Am
set_option linter.unusedVariables false
abbrev dM:MailT:=((0:Int),((0:Int),(([]:List UInt8),((0:Int),(([]:List (List UInt8)),(([]:List (Int×Int)),((0:Int),(0:Int))))))))
def mailA (i:Nat) (c:UInt8):MailT:=((i:Int)+(1:Int),((1:Int)+((i:Int).tmod (3:Int)),(List.replicate (((c.toNat:Int).tmod (7:Int))).toNat 0,((c.toNat:Int),([],([],((0:Int),(0:Int))))))))
def mailsA:Nat->List UInt8->List MailT
 | _,[]=>[]
 | i,c::r=>mailA i c::mailsA (i+1) r
theorem mailsA_len:∀ (r:List UInt8) (i:Nat),(mailsA i r).length=r.length
 | [],_=>rfl
 | c::r,i=>by rw [mailsA,List.length_cons,List.length_cons,mailsA_len r]
theorem mailsA_get:∀ (r:List UInt8) (i:Nat) (m:MailT),m ∈ mailsA i r->∃ (k:Nat) (c:UInt8),m=mailA (i+k) c/\k < r.length/\∀ d,(mailsA i r).getD k d=m
 | [],_,_,h=>by cases h
 | c::r,i,m,h=>by
  rcases List.mem_cons.1 h with rfl | h
  .exact ⟨0,c,rfl,by simp,fun d=>rfl⟩
  .obtain ⟨k,c',h1,h2,h3⟩:=mailsA_get r (i+1) m h
   exact ⟨k+1,c',by rw [h1]; congr 1; omega,by simp; omega,fun d=>by rw [mailsA,List.getD_cons_succ]; exact h3 d⟩
theorem mailsA_ids:∀ (r:List UInt8) (i:Nat),(mailsA i r).Pairwise fun x y=>x.1≠y.1
 | [],_=>List.Pairwise.nil
 | c::r,i=>by
  refine List.pairwise_cons.2 ⟨fun m hm=>?_,mailsA_ids r (i+1)⟩
  obtain ⟨k,c',rfl,_⟩:=mailsA_get r (i+1) m hm
  show (i:Int)+1≠((i+1+k:Nat):Int)+1
  omega
theorem subj_of {s:List UInt8} (hv:subjV s=[]):(subjS s).length<=1000000:=by
 have hw:wordS []=[]:=List.eq_nil_of_length_eq_zero (by have:=wordS_len []; simpa using this)
 have hs:shownS []=[]:=by kernel_rfl
 unfold subjS
 rw [hv,hw,hs]
 simp
theorem txt_ok:∀ n:Nat,n<=6->(splitS (List.replicate n 0) 0 ((List.replicate n (0:UInt8)).length:Int)).1=[]/\(subjS (List.replicate n 0)).length<=1000000
 | 0,_=>⟨by kernel_rfl,subj_of (by kernel_rfl)⟩
 | 1,_=>⟨by kernel_rfl,subj_of (by kernel_rfl)⟩
 | 2,_=>⟨by kernel_rfl,subj_of (by kernel_rfl)⟩
 | 3,_=>⟨by kernel_rfl,subj_of (by kernel_rfl)⟩
 | 4,_=>⟨by kernel_rfl,subj_of (by kernel_rfl)⟩
 | 5,_=>⟨by kernel_rfl,subj_of (by kernel_rfl)⟩
 | 6,_=>⟨by kernel_rfl,subj_of (by kernel_rfl)⟩
 | n+7,h=>absurd h (by omega)
theorem mod7 (c:UInt8):(((c.toNat:Int).tmod (7:Int))).toNat<=6:=by
 rw [show ((c.toNat:Int).tmod (7:Int))=((c.toNat % 7:Nat):Int) from rfl]; omega
theorem mailA_small (i:Nat) (c:UInt8):smallM (mailA i c):=by
 have:=mod7 c
 exact ⟨by show (List.replicate _ _).length<=_; rw [List.length_replicate]; omega,by show ([]:List (List UInt8)).length<=_; simp,by show ([]:List (Int×Int)).length<=_; simp⟩
theorem holdok_any {f:List TermT} {m:MailT} (hm:smallM m) (ht:∀ t ∈ f,smallT t) (hl:f.length<=60):holdok f m:=by
 by_cases h:f.length<=40
 .exact holdok_of hm ht h
 .exact ⟨⟨by omega,fun t h=>by have:=(ht t h).2.2.2; omega⟩,by have:=hm.1; omega,fun hr _=>by rw [rightP,if_pos (by omega)] at hr; cases hr⟩
theorem qGok_mails (ats:List UInt8) (f:List TermT) (dn:Bool) (ha:ats.length<=30) (ht:∀ t ∈ f,smallT t) (hl:f.length<=60):qGok (mailsA 0 ats) f (ordD dn):=by
 refine ⟨⟨dn,rfl⟩,⟨by omega,fun t h=>by have:=(ht t h).2.2.2; omega⟩,by rw [mailsA_len]; exact ha,mailsA_ids ats 0,fun m hm=>?_⟩
 obtain ⟨k,c,rfl,_⟩:=mailsA_get ats 0 m hm
 obtain ⟨t1,t2⟩:=txt_ok _ (mod7 c)
 have hsm:=mailA_small (0+k) c
 exact ⟨t1,by have:=hsm.1; omega,t2,holdok_any hsm ht hl⟩
structure QF (L:List MailT) (f:List TermT) (dn:Bool) (S:List FoundT):Prop where
 el:∀ x ∈ S,∃ m ∈ L,x=q0el m/\holdF f m=true/\1<=m.1/\m.1<=L.length/\∀ d,L.getD (m.1 - 1).toNat d=m
 lt:S.Pairwise (LtF dn)
 len:S.length=(L.filter (holdF f)).length
theorem query_qf (ats:List UInt8) (f:List TermT) (dn:Bool):∃ S,queryGS (mailsA 0 ats) f (ordD dn)=S.map idF/\QF (mailsA 0 ats) f dn S:=by
 unfold queryGS
 cases hr:rightP f with
 | false=>
  have he:(mailsA 0 ats).filter (holdF f)=[]:=by
   rw [List.filter_eq_nil_iff]
   intro m _
   unfold holdF
   rw [hr]; simp
  exact ⟨[],rfl,⟨fun x hx=>(by cases hx),List.Pairwise.nil,by rw [he]; rfl⟩⟩
 | true=>
  rw [if_pos rfl,sortR_all dn _ _ rfl]
  refine ⟨_,rfl,⟨fun x hx=>?_,msort_lt (found_ids _ f (mailsA_ids ats 0)),by rw [(msort_perm dn _).length_eq,foundL,List.length_map]⟩⟩
  obtain ⟨m,hm,rfl⟩:=List.mem_map.1 ((msort_perm dn _).subset hx)
  obtain ⟨h1,h2⟩:=List.mem_filter.1 hm
  obtain ⟨k,c,he,hk,hg⟩:=mailsA_get ats 0 m h1
  have e1:m.1=(k:Int)+1:=by rw [he]; show ((0+k:Nat):Int)+1=_; omega
  refine ⟨m,h1,rfl,h2,by omega,by rw [mailsA_len]; omega,fun d=>?_⟩
  rw [show (m.1 - 1).toNat=k by omega]
  exact hg d
theorem mpHas_app {e:Ec} {a b:List (Int×Elt e)} {k:Int}:mpHas (a++b) k=(mpHas a k||mpHas b k):=by simp [mpHas]
theorem thrL_eq:∀ (l:List MailT) (acc:List (Int×Int)),(l.Pairwise fun x y=>x.1≠y.1)->(∀ m ∈ l,mpHas (e:=.int .i64) acc m.1=false)->thrL l acc=acc++l.map fun m=>(m.1,m.2.1)
 | [],acc,_,_=>by simp [thrL]
 | m::r,acc,h,hn=>by
  obtain ⟨h1,h2⟩:=List.pairwise_cons.1 h
  rw [thrL,hn m (by simp),if_neg (by simp),thrL_eq r _ h2 fun x hx=>?_]
  .simp
  .rw [mpHas_app,hn x (by simp [hx]),Bool.false_or]
   have:=h1 x hx
   simp [mpHas]
   exact fun e=>this e.symm
theorem thr_get:∀ (l:List MailT),(l.Pairwise fun x y=>x.1≠y.1)->∀ m ∈ l,mpHas (e:=.int .i64) (l.map fun m=>(m.1,m.2.1)) m.1=true/\mpGet (e:=.int .i64) (l.map fun m=>(m.1,m.2.1)) m.1=m.2.1
 | [],_,m,hm=>by cases hm
 | x::r,h,m,hm=>by
  obtain ⟨h1,h2⟩:=List.pairwise_cons.1 h
  rw [List.map_cons,mpHas,List.any_cons,mpGet]
  rcases List.mem_cons.1 hm with rfl | hm
  .have e:(m.1==m.1)=true:=beq_self_eq_true m.1
   exact ⟨by rw [e,Bool.true_or],by rw [e]⟩
  .have e:(m.1==x.1)=false:=beq_eq_false_iff_ne.2 fun q=>h1 m hm q.symm
   obtain ⟨i1,i2⟩:=thr_get r h2 m hm
   exact ⟨by rw [e,Bool.false_or]; exact i1,by rw [e]; exact i2⟩
theorem col_prop (thr:List (Int×Int)):∀ (r:List Int) (told:List (Int×Bool)),(∀ x ∈ r,mpHas (e:=.int .i64) thr x=true)->(∀ p ∈ told,p.2=true)->
 (∀ x ∈ colL thr r told,x ∈ r/\mpHas (e:=.bool) told (mpGet (e:=.int .i64) thr x)=false)/\(colL thr r told).Pairwise fun x y=>mpGet (e:=.int .i64) thr x≠mpGet (e:=.int .i64) thr y
 | [],_,_,_=>⟨fun x hx=>(by cases hx),List.Pairwise.nil⟩
 | i::r,told,h,ht=>by
  have hi:=h i (by simp)
  rw [colL,hi,Bool.true_and,told_has ht]
  cases hc:mpHas (e:=.bool) told (mpGet (e:=.int .i64) thr i) with
  | true=>
   obtain ⟨h1,h2⟩:=col_prop thr r told (fun x hx=>h x (by simp [hx])) ht
   rw [if_pos rfl]
   exact ⟨fun x hx=>⟨by simp [(h1 x hx).1],(h1 x hx).2⟩,h2⟩
  | false=>
   rw [if_neg (by simp),if_pos rfl]
   obtain ⟨h1,h2⟩:=col_prop thr r (told++[(mpGet (e:=.int .i64) thr i,true)]) (fun x hx=>h x (by simp [hx])) (fun p hp=>by
    rcases List.mem_append.1 hp with hp | hp
    .exact ht p hp
    .rw [List.mem_singleton.1 hp])
   have h3:∀ x ∈ colL thr r (told++[(mpGet (e:=.int .i64) thr i,true)]),mpHas (e:=.bool) told (mpGet (e:=.int .i64) thr x)=false/\mpGet (e:=.int .i64) thr i≠mpGet (e:=.int .i64) thr x:=fun x hx=>by
    have:=(h1 x hx).2
    rw [mpHas_app,Bool.or_eq_false_iff] at this
    refine ⟨this.1,fun e=>?_⟩
    have h4:=this.2
    simp [mpHas] at h4
    exact h4 e.symm
   refine ⟨fun x hx=>?_,List.pairwise_cons.2 ⟨fun x hx=>(h3 x hx).2,h2⟩⟩
   rcases List.mem_cons.1 hx with rfl | hx
   .exact ⟨by simp,hc⟩
   .exact ⟨by simp [(h1 x hx).1],(h3 x hx).1⟩
structure CF (L:List MailT) (c:List Int):Prop where
 el:∀ x ∈ c,∃ m ∈ L,x=m.1/\1<=m.1/\m.1<=L.length/\∀ d,L.getD (m.1 - 1).toNat d=m
 ne:c.Pairwise fun x y=>(L.getD (x - 1).toNat dM).2.1≠(L.getD (y - 1).toNat dM).2.1
 len:c.length<=3
theorem three_of {c:List Int} {T:Int->Int} (h:c.Pairwise fun x y=>T x≠T y) (hr:∀ x ∈ c,1<=T x/\T x<=3):c.length<=3:=by
 match c,h,hr with
 | [],_,_=>simp
 | [_],_,_=>simp
 | [_,_],_,_=>simp
 | [_,_,_],_,_=>simp
 | x::y::z::u::r,h,hr=>
  simp only [List.pairwise_cons,List.mem_cons] at h
  have hx:=hr x (by simp)
  have hy:=hr y (by simp)
  have hz:=hr z (by simp)
  have hu:=hr u (by simp)
  have a1:=h.1 y (by simp)
  have a2:=h.1 z (by simp)
  have a3:=h.1 u (by simp)
  have b1:=h.2.1 z (by simp)
  have b2:=h.2.1 u (by simp)
  have c1:=h.2.2.1 u (by simp)
  omega
theorem collapse_cf (ats:List UInt8) (q:List Int) (hq:∀ x ∈ q,∃ m ∈ mailsA 0 ats,x=m.1/\1<=m.1/\m.1<=(mailsA 0 ats).length/\∀ d,(mailsA 0 ats).getD (m.1 - 1).toNat d=m):CF (mailsA 0 ats) (collapseS (mailsA 0 ats) q):=by
 have hids:=mailsA_ids ats 0
 have ht:thrL (mailsA 0 ats) []=(mailsA 0 ats).map fun m=>(m.1,m.2.1):=by
  have:=thrL_eq (mailsA 0 ats) [] hids (fun m _=>rfl)
  simpa using this
 unfold collapseS
 rw [ht]
 have hm:=thr_get (mailsA 0 ats) hids
 obtain ⟨p1,p2⟩:=col_prop ((mailsA 0 ats).map fun m=>(m.1,m.2.1)) q [] (fun x hx=>by
  obtain ⟨m,h1,rfl,_⟩:=hq x hx
  exact (hm m h1).1) (fun p hp=>by cases hp)
 have hT:∀ x ∈ colL ((mailsA 0 ats).map fun m=>(m.1,m.2.1)) q [],mpGet (e:=.int .i64) ((mailsA 0 ats).map fun m=>(m.1,m.2.1)) x=((mailsA 0 ats).getD (x - 1).toNat dM).2.1/\1<=((mailsA 0 ats).getD (x - 1).toNat dM).2.1/\((mailsA 0 ats).getD (x - 1).toNat dM).2.1<=3:=fun x hx=>by
  obtain ⟨m,h1,rfl,h2,h3,h4⟩:=hq x (p1 x hx).1
  rw [(hm m h1).2,h4]
  refine ⟨rfl,?_⟩
  obtain ⟨k,c,rfl,_⟩:=mailsA_get ats 0 m h1
  show (1:Int)<=(1:Int)+(((0+k:Nat):Int).tmod (3:Int))/\(1:Int)+(((0+k:Nat):Int).tmod (3:Int))<=3
  rw [show (((0+k:Nat):Int).tmod (3:Int))=(((0+k) % 3:Nat):Int) from rfl]
  omega
 have p3:(colL ((mailsA 0 ats).map fun m=>(m.1,m.2.1)) q []).Pairwise fun x y=>((mailsA 0 ats).getD (x - 1).toNat dM).2.1≠((mailsA 0 ats).getD (y - 1).toNat dM).2.1:=by
  refine List.Pairwise.imp_of_mem (fun {x y} hx hy hne=>?_) p2
  rw [(hT x hx).1,(hT y hy).1] at hne
  exact hne
 exact ⟨fun x hx=>hq x (p1 x hx).1,p3,three_of (T:=fun x=>((mailsA 0 ats).getD (x - 1).toNat dM).2.1) p3 fun x hx=>(hT x hx).2⟩
end Go.Proofs.YtampckbjinodgaaGreatDoor
