/-
  The abstract machine of these proofs.
-/
import Derived.Test.YtampckbjinodgaaGreatDoorAmB
import Derived.ProofKit
import Derived.ShutString
import Derived.Scope
set_option linter.unusedVariables false
noncomputable section
/-! The call itself, in the caller's state. -/
namespace Go.Am
open Go Go.RowKit
variable {P:Program}{γ γ':Nat->Option G}{M M':Mem}{C:Ctx}{s s':S}{a a':Act}{w w':World}
structure yM where
 sn:List Bool
 sp:List AV->List (Nat×AObj)->Option ((List Nat×AV)×(List (Nat×AObj)×Option Prop))
abbrev zbd:=FuncId->Option yM
def zS(P:Program)(f:FuncId)(sp:yM):Prop:=∀ args ib kept r zZ ok,sp.sp args ib=some ((kept,r),(zZ,ok))->okP ok->zdE P f=true/\FnR P f args ib kept r zZ
def zaR(P:Program)(env:zbd):Prop:=∀ f sp,env f=some sp->zS P f sp
def zuA(ob:Nat->Option AObj):List Bool->List AV->Option (List AV)
 | true::sn,x::xs=>match zfZ ob x,zuA ob sn xs with
  | some y,some ys=>some (y::ys)
  | _,_=>none
 | false::sn,x::xs=>match zuA ob sn xs with
  | some ys=>some (x::ys)
  | none=>none
 | [],[]=>some []
 | _,_=>none
def zaa(x:Nat)(l:List Nat):Bool:=l.any (Nat.beq x)
def zOQ:AV->List Nat
 | .ref id _=>[id]
 | .mref id=>[id]
 | .arr id=>[id]
 | _=>[]
def zOP:AV->List Nat
 | .clo _ fs cs=>(fs++cs).flatMap zOQ
 | .agg cs=>cs.flatMap zOQ
 | .tup cs=>cs.flatMap zOQ
 | x=>zOQ x
def zqd:List Nat->List Nat->List Nat
 | acc,[]=>acc
 | acc,x::r=>match zaa x acc with|true=>zqd acc r|false=>zqd (acc++[x]) r
def idsO(ob:Nat->Option AObj)(i:Nat):List Nat:=
 match ob i with
 | some (.cells cs)=>cs.flatMap zOP
 | some (.bldr _ a)=>zOP a
 | _=>[]
def zu6(ob:Nat->Option AObj):Nat->List Nat->List Nat
 | 0,acc=>acc
 | n+1,acc=>zu6 ob n (zqd acc (acc.flatMap (idsO ob)))
def zAC:Nat->List Nat->List (Nat×Nat)
 | _,[]=>[]
 | n,x::r=>(n,x)::zAC (n+1) r
def zuS(us:Nat->Bool):Nat->Nat->Nat
 | 0,j=>j
 | n+1,j=>match us j with|true=>zuS us n (j+1)|false=>j
def zTw(us:Nat->Bool)(ps:List (Nat×Nat))(kept:List Nat)(i:Nat):Nat×Nat:=
 match zaa i kept,zm i ps with
 | true,some j=>(j,i)
 | _,_=>match i with
  | 0=>(zuS us 100 1000000,0)
  | n+1=>(zuS us 100 (1000000+1000*(n+2)),n+1)
def qsOk(us:Nat->Bool)(ps:List (Nat×Nat))(kept:List Nat)(qs:List (Nat×Nat)):Bool:=
 qs.all fun q=>!us q.1||(zaa q.2 kept&&(match zm q.2 ps with|some j=>Nat.beq j q.1|none=>false))
def zfS(ob:Nat->Option AObj)(gone:List Nat)(ob':List (Nat×AObj)):Nat->Option AObj:=fun j=>
 match zm j ob' with
 | some o=>some o
 | none=>match zaa j gone with|true=>none|false=>ob j
def evR(env:zbd)(nt:Nat)(o:Oper)(s:S)(xs:List AV):Option (S×Option Prop):=
 match o.op,xs,yL nt o.dst with
 | .call ⟨.value _,_,_⟩,.clo (.func f) fs cs::ys,true=>match env f with
  | some sp=>match zuA s.ob sp.sn (fs++(ys++cs))with
   | some zs=>
    let ps:=zAC 70000 (zu6 s.ob 2 (zqd [] (zs.flatMap zOP)))
    match zfR ps&&zs.all (zon (zbW ps)),zpM s.ob ps with
    | true,some ib=>match sp.sp (zs.map (zhS (zbW ps))) ib with
     | some ((kept,r),(zZ,ok))=>
      let qs:=zZ.map fun q=>zTw s.us ps kept q.1
      match zfR qs&&zon (zbW qs) r&&qsOk s.us ps kept qs,zpM (fun i=>zm i zZ) qs with
      | true,some ob'=>some ({ sl:=yo s.sl o.dst (zhS (zbW qs) r),ob:=zfS s.ob (ps.map (·.2)) ob',us:=fun j=>s.us j||(zm j ob').isSome },ok)
      | _,_=>none
     | none=>none
    | _,_=>none
   | none=>none
  | none=>none
 | _,_,_=>none
theorem zJo(hs:StG C γ M s a w):∀ {sn:List Bool} {xs zs:List AV} {vs:List Value},zuA s.ob sn xs=some zs->zB γ M xs vs->zB γ M zs vs:=by
 intro sn
 induction sn with
 | nil=>
  intro xs zs vs h hx
  cases xs with
  | nil=>cases h;exact hx
  | cons _ _=>cases h
 | cons b sn ih=>
  intro xs zs vs h hx
  cases xs with
  | nil=>cases b <;> cases h
  | cons x xs=>
   cases hx with
   | cons h1 h2=>
    cases b with
    | false=>
     simp only[zuA]at h
     cases hm:zuA s.ob sn xs with
     | none=>rw[hm]at h;cases h
     | some ys=>rw[hm]at h;cases h;exact .cons h1 (ih hm h2)
    | true=>
     simp only[zuA]at h
     cases hp:zfZ s.ob x with
     | none=>rw[hp]at h;cases h
     | some y=>
      cases hm:zuA s.ob sn xs with
      | none=>rw[hp,hm]at h;cases h
      | some ys=>rw[hp,hm]at h;cases h;exact .cons ((zjf hs hp h1).mono (fun _ _ hx=>by cases hx) (MLe.refl M)) (ih hm h2)
theorem za0{x:Nat}{l:List Nat}:zaa x l=true↔x ∈ l:=by
 unfold zaa
 rw[List.any_eq_true]
 constructor
 .rintro ⟨y,hy,h⟩;rw[Nat.eq_of_beq_eq_true h];exact hy
 .intro h;exact⟨x,h,by simp⟩
theorem StG.called(h:StG C γ M s a w){dst:Option Nat}(hd:yL C.nt dst=true){ps qs:List (Nat×Nat)}(hps:zfR ps=true)(hqs:zfR qs=true)
 {ib zZ ob':List (Nat×AObj)} (hib:zpM s.ob ps=some ib) (hob:zpM (fun i=>zm i zZ) qs=some ob') {kept:List Nat} (hk:qsOk s.us ps kept qs=true)
 {γ2:Nat->Option G} {M2:Mem} {w2:World} {r:AV} {v:Value} (hur:zon (zbW qs) r=true)
 (hkept:∀ i ∈ kept,∀ g,zaI γ (yr ib) (zY (zbx ps)) i=some g->γ2 i=some g) (hM:MLe M M2) (hmem:MOk M2 w2) (hr:zp γ2 M2 r v)
 (hO:zhW γ2 M2 w2 (fun i=>zm i zZ) (fun b=>(w.heap.size<=b\/Handed (zaI γ (yr ib) (zY (zbx ps))) ib b)/\b<w2.heap.size))
 (hold:∀ b,b<w.heap.size->¬ Handed (zaI γ (yr ib) (zY (zbx ps))) ib b->w2.heap[b]?=w.heap[b]?/\M2 b=M b)
 (hsz:w.heap.size<=w2.heap.size) (hos:w2.os=w.os) (htape:w2.tape=w.tape) (hout:w2.output=w.output):
 St C { sl:=yo s.sl dst (zhS (zbW qs) r),ob:=zfS s.ob (ps.map (·.2)) ob',us:=fun j=>s.us j||(zm j ob').isSome } (a.put dst v) w2:=by
 obtain⟨k1,k2,k3⟩:=zfn hib
 obtain⟨o1,o2,o3⟩:=zfn hob
 have hidI:(yr ib).map (·.1)=ps.map (·.1):=by rw[<-k1];simp[yr]
 have hidO:(yr ob').map (·.1)=qs.map (·.1):=by rw[<-o1];simp[yr]
 have hON:=ztk hO hqs hob
 have handed:∀ b,Handed (zaI γ (yr ib) (zY (zbx ps))) ib b->∃ j g,j ∈ ps.map (·.2)/\s.ob j≠none/\γ j=some g/\g.blk=some b:=by
  rintro b ⟨i,g,_,hg,hb⟩
  obtain⟨j,hm,hgj⟩:=zlI hidI hps hg
  exact⟨j,g,List.mem_map.2 ⟨_,hm,rfl⟩,k3 i j hm,hgj,hb⟩
 let γn:Nat->Option G:=fun j=>match zm j ob' with
  | some _=>zaI γ2 (yr ob') (zY (zbx qs)) j
  | none=>γ j
 have γn_in:∀ {j o},zm j ob'=some o->γn j=zaI γ2 (yr ob') (zY (zbx qs)) j:=by
  intro j o ho;simp only[γn,ho]
 have γn_out:∀ {j},zm j ob'=none->γn j=γ j:=by intro j ho;simp only[γn,ho]
 have hγ:GLe γ γn:=by
  intro j g hg
  cases ho:zm j ob' with
  | none=>rw[γn_out ho];exact hg
  | some o=>
   rw[γn_in ho]
   have:j ∈ qs.map (·.1):=by rw[<-o1];exact zsQ (by rw[ho];rfl)
   obtain⟨q,hq,he⟩:=List.mem_map.1 this
   have hq':(j,q.2) ∈ qs:=by rw[<-he];exact hq
   rw[zDg hidO hqs hq']
   have hc:=List.all_eq_true.1 hk _ hq'
   rw[Bool.or_eq_true]at hc
   rcases hc with hc|hc
   .rw [h.us j (by simpa using hc)]at hg;cases hg
   .rw [Bool.and_eq_true]at hc
    have hkm:=za0.1 hc.1
    have hl:=hc.2
    dsimp only at hl hkm
    cases hlp:zm q.2 ps with
    | none=>rw[hlp]at hl;cases hl
    | some j'=>
     rw[hlp]at hl
     have:j'=j:=Nat.eq_of_beq_eq_true hl
     subst this
     refine hkept q.2 hkm g ?_
     rw[zDg hidI hps (zaw hlp)];exact hg
 have hγ2:GLe (zaI γ2 (yr ob') (zY (zbx qs))) γn:=by
  intro j g hg
  cases ho:zm j ob' with
  | some o=>rw[γn_in ho];exact hg
  | none=>
   exfalso
   obtain⟨i,hm,_⟩:=zlI hidO hqs hg
   have:(zm j ob').isSome=true:=zcX (by rw[o1];exact List.mem_map.2 ⟨_,hm,rfl⟩)
   rw[ho]at this;cases this
 have hr':zp γn M2 (zhS (zbW qs) r) v:=by
  obtain⟨c1,c2⟩:=zp0 (zpL hqs o1) hur
  exact(c1.rel c2 hr).mono hγ2 (MLe.refl M2)
 have stays:∀ {j},zm j ob'=none->zfS s.ob (ps.map (·.2)) ob' j≠none->j ∉ ps.map (·.2)/\zfS s.ob (ps.map (·.2)) ob' j=s.ob j:=by
  intro j ho hm
  unfold zfS at hm ⊢
  rw[ho]at hm ⊢
  dsimp only at hm ⊢
  cases he:zaa j (ps.map (·.2))with
  | true=>rw[he]at hm;exact absurd rfl hm
  | false=>exact⟨fun hmem=>Bool.noConfusion (he.symm.trans (za0.2 hmem)),rfl⟩
 have inob:∀ {j o},zm j ob'=some o->zfS s.ob (ps.map (·.2)) ob' j=some o:=by
  intro j o ho;unfold zfS;rw[ho]
 have apart:∀ {j g b},j ∉ ps.map (·.2)->s.ob j≠none->γ j=some g->g.blk=some b->¬ Handed (zaI γ (yr ib) (zY (zbx ps))) ib b:=by
  intro j g b hj ho hg hb hh
  obtain⟨j2,g2,h1,h2,h3,h4⟩:=handed b hh
  exact hj (h.sep j j2 g g2 b ho h2 hg h3 hb h4 ▸ h1)
 refine⟨γn,M2,zg5 (dst:=dst) (by rw[h.nt];exact hd) (fun t=>(h.sl t).mono hγ hM) hr',?_,?_,?_,?_,hmem,h.le.trans hM,?_,?_,by rw[zb6];exact h.df,by rw[zeE];exact h.nt,h.gl.trans hγ⟩
 .intro id o ho
  cases hl:zm id ob' with
  | some o'=>
   have:=inob hl
   have e:o'=o:=by have:=this.symm.trans ho;cases this;rfl
   subst e
   exact(hON.ob id o' hl).keep hγ2 (MLe.refl M2) fun _ _ _ _=>⟨rfl,rfl⟩
  | none=>
   obtain⟨h1,h2⟩:=stays hl (by show zfS s.ob (ps.map (·.2)) ob' id≠none;rw[show zfS s.ob (ps.map (·.2)) ob' id=some o from ho];simp)
   have ho':s.ob id=some o:=h2.symm.trans ho
   refine(h.ob id o ho').keep hγ hM fun g b hg hb=>?_
   exact hold b (h.lo id g b (by rw[ho'];simp) hg hb).2 (apart h1 (by rw[ho'];simp) hg hb)
 .intro id hu
  have hu':(s.us id||(zm id ob').isSome)=false:=hu
  rw[Bool.or_eq_false_iff]at hu'
  have hl:zm id ob'=none:=by cases hl:zm id ob' with|none=>rfl|some _=>rw[hl]at hu';cases hu'.2
  rw[γn_out hl];exact h.us id hu'.1
 .intro i j g g' b hi hj hg hg' hb hb'
  have hi':zfS s.ob (ps.map (·.2)) ob' i≠none:=hi
  have hj':zfS s.ob (ps.map (·.2)) ob' j≠none:=hj
  cases hl:zm i ob' with
  | some o=>
   rw[γn_in hl]at hg
   cases hl2:zm j ob' with
   | some o2=>
    rw[γn_in hl2]at hg'
    exact hON.sep i j g g' b (by rw[hl];simp) (by rw[hl2];simp) hg hg' hb hb'
   | none=>
    exfalso
    rw[γn_out hl2]at hg'
    obtain⟨h1,h2⟩:=stays hl2 hj'
    rw[h2]at hj'
    have hL:=(hON.lo i g b (by rw[hl];simp) hg hb).1
    rcases hL with hL|hL
    .have:=(h.lo j g' b hj' hg' hb').2;omega
    .exact apart h1 hj' hg' hb' hL
  | none=>
   rw[γn_out hl]at hg
   obtain⟨h1,h2⟩:=stays hl hi'
   rw[h2]at hi'
   cases hl2:zm j ob' with
   | some o2=>
    exfalso
    rw[γn_in hl2]at hg'
    have hL:=(hON.lo j g' b (by rw[hl2];simp) hg' hb').1
    rcases hL with hL|hL
    .have:=(h.lo i g b hi' hg hb).2;omega
    .exact apart h1 hi' hg hb hL
   | none=>
    rw[γn_out hl2]at hg'
    obtain⟨h3,h4⟩:=stays hl2 hj'
    rw[h4]at hj'
    exact h.sep i j g g' b hi' hj' hg hg' hb hb'
 .intro i g b hi hg hb
  have hi':zfS s.ob (ps.map (·.2)) ob' i≠none:=hi
  cases hl:zm i ob' with
  | some o=>
   rw[γn_in hl]at hg
   obtain⟨hL,hlt⟩:=hON.lo i g b (by rw[hl];simp) hg hb
   refine⟨?_,hlt⟩
   rcases hL with hL|hL
   .exact .inl (Nat.le_trans h.fr.size hL)
   .obtain ⟨j2,g2,_,h2,h3,h4⟩:=handed b hL
    exact(h.lo j2 g2 b h2 h3 h4).1
  | none=>
   rw[γn_out hl]at hg
   obtain⟨_,h2⟩:=stays hl hi'
   rw[h2]at hi'
   have:=h.lo i g b hi' hg hb
   exact⟨this.1,by omega⟩
 .intro b hb ho
  have hsz0:=h.fr.size
  refine(hold b (by omega) fun hh=>?_).2.trans (h.new b hb ho)
  obtain⟨j2,g2,_,h2,h3,h4⟩:=handed b hh
  rcases(h.lo j2 g2 b h2 h3 h4).1 with h5|h5
  .omega
  .exact ho h5
 .have hf:=h.fr
  refine⟨hos.trans hf.os,htape.trans hf.tape,hout.trans hf.output,Nat.le_trans hf.size hsz,fun b hb ho=>?_,hf.tab⟩
  have hsz0:=hf.size
  refine(hold b (by omega) fun hh=>?_).1.trans (hf.block b hb ho)
  obtain⟨j2,g2,_,h2,h3,h4⟩:=handed b hh
  rcases(h.lo j2 g2 b h2 h3 h4).1 with h5|h5
  .omega
  .exact ho h5
theorem zGA{env:zbd}(henv:zaR P env)(hs:StG C γ M s a w)(o:Oper){xs:List AV}{ok:Option Prop}
 (h:evR env C.nt o s xs=some (s',ok)) (hok:okP ok) (hx:zB γ M xs (o.op.operands.toList.map a.eval)) {next:Act->World->Prop} {Q:Exit->Act->World->Prop}
 (hn:∀ a' w',St C s' a' w'->next a' w'):o.wpIn (FW C.rd) 0 P a w next Q:=by
 obtain⟨dst,op,type,pos,after,guard⟩:=o
 dsimp only at hx
 unfold evR at h
 dsimp only at h
 split at h
 .rename_i fop args ts f fs cs ys hd
  have hx':zB γ M (.clo (.func f) fs cs::ys) (a.eval fop::args.toList.map a.eval):=by simpa[Op.operands,Call.operands]using hx
  cases hsp:env f with
  | none=>rw[hsp]at h;cases h
  | some sp=>
   rw[hsp]at h
   dsimp only at h
   cases hz:zuA s.ob sp.sn (fs++(ys++cs))with
   | none=>rw[hz]at h;cases h
   | some zs=>
    rw[hz]at h
    dsimp only at h
    generalize zAC 70000 (zu6 s.ob 2 (zqd [] (zs.flatMap zOP)))=ps at h
    split at h
    .rename_i ib hchk hib
     rw[Bool.and_eq_true]at hchk
     obtain⟨hps,huse⟩:=hchk
     split at h
     .rename_i kept r zZ ok' hr
      split at h
      .rename_i ob' hchk2 hob
       cases h
       rw[Bool.and_eq_true,Bool.and_eq_true]at hchk2
       obtain⟨⟨hqs,hur⟩,hqok⟩:=hchk2
       obtain⟨hcall,hfn⟩:=henv f sp hsp _ _ _ _ _ _ hr hok
       cases hx' with
       | cons h1 h2=>
        generalize hfv:a.eval fop=fv at h1
        cases h1 with
        | clo _ _ _ vf vc hf hc g1 g2=>
         have hall:zB γ M (fs++(ys++cs)) (vf.toList++(args.toList.map a.eval++vc.toList)):=by
          refine(zB.of_get (by simpa using hf) fun i hi=>?_).append (h2.append (zB.of_get (by simpa using hc) fun i hi=>?_))
          .have:=g1 i hi;rw[Array.getD_eq_getD_getElem?]at this;simpa[List.getD_eq_getElem?_getD]using this
          .have:=g2 i hi;rw[Array.getD_eq_getD_getElem?]at this;simpa[List.getD_eq_getElem?_getD]using this
         have hz':=zJo hs hz hall
         obtain⟨k1,k2,k3⟩:=zfn hib
         have hO0:zhW γ M w s.ob (fun b=>b<w.heap.size):=⟨hs.ob,hs.sep,fun id g b h1 h2 h3=>(hs.lo id g b h1 h2 h3).2⟩
         have hOi:=ztk hO0 hps hib
         have hargs:=zB.ren (zpL hps k1) huse hz'
         have hnone:∀ i,zm i ib=none->zaI γ (yr ib) (zY (zbx ps)) i=none:=by
          intro i hi
          unfold zaI
          cases hl:zm i (yr ib)with
          | none=>rfl
          | some k=>
           have:(zm i ib).isSome=(zm i (yr ib)).isSome:=zdx (by simp[yr]) i
           rw[hi,hl]at this;cases this
         have hhand:HOk (zaI γ (yr ib) (zY (zbx ps))) ib M w:=⟨hs.wok,by
          rintro b ⟨i,g,_,hg,hb⟩
          obtain⟨j,hm,hgj⟩:=zlI (by rw[<-k1];simp[yr]) hps hg
          exact hs.notab (k3 i j hm) hgj hb⟩
         have hC:=hfn _ M w _ hOi hnone hhand hargs
         have hrun:(execOp a.eval ⟨dst,.call ⟨.value fop,args,ts⟩,type,pos,after,guard⟩).run P w=.ok (.enter f (vf.toList++(args.toList.map a.eval++vc.toList)).toArray) w:=by
          simp only[execOp,resolve,hfv,Deferred.ofValue,Sem.run_bind,Sem.run_pure,Result.andThen_ok,invoke]
          have e:vf++args.map a.eval++vc=(vf.toList++(args.toList.map a.eval++vc.toList)).toArray:=by
           apply Array.ext';simp
          rw[e]
          exact zfe hcall _ w
         refine zsf hrun (hC.mono fun e w' ⟨v,γ2,M2,he,hkept,hle,hmem,hrel,hO,hold,hsz,hos,htape,hout⟩=>⟨v,he,?_⟩)
         exact hn _ _ (hs.called hd hps hqs hib hob hqok hur hkept hle hmem hrel hO hold hsz hos htape hout)
      .cases h
     .cases h
    .cases h
 .cases h
def zKW:Op->Option (TypeId×TypeId)
 | .convert sT d _=>some (sT,d)
 | _=>none
theorem zxX{op:Op}{sT d:TypeId}(h:zKW op=some (sT,d)):∃ x,op=.convert sT d x:=by
 cases op <;> first|cases h|skip
 exact⟨_,rfl⟩
def zDT:Op->Option TypeId
 | .slice t _ none (some _) none=>some t
 | _=>none
theorem zBa{op:Op}{t:TypeId}(h:zDT op=some t):∃ x y,op=.slice t x none (some y) none:=by
 unfold zDT at h
 split at h
 .cases h;exact⟨_,_,rfl⟩
 .cases h
def zuU(P:Program)(nt:Nat)(o:Oper)(t:TypeId)(s:S)(xs:List AV):Option (S×Option Prop):=
 match o.dst,xs,yL nt o.dst with
 | some d,[.arr id,.p (.int _ hi)],true=>match s.us d,s.ob id,(zdn P t).bind (zaH P)with
  | false,some (.barr e true l),some 1=>some (zae s d (some id) (.barr e true (l.take hi.toNat)),some (0<=hi/\hi<=(l.length:Int)))
  | false,some (.larr e true k (.dat c l)),some k'=>match Nat.beq k k' with
   | true=>some (zae s d (some id) (.larr e true k (.dat c (l.take hi.toNat))),some (0<=hi/\hi<=(l.length:Int)))
   | false=>none
  | _,_,_=>none
 | _,_,_=>none
theorem zrD(hs:StG C γ M s a w)(o:Oper){t:TypeId}(hcut:zDT o.op=some t){s':S}{ok:Option Prop}{ρ:Operand->Value}
 (h:zuU P C.nt o t s (o.op.operands.toList.map (aev s.sl))=some (s',ok)) (hok:okP ok) (hx:zB γ M (o.op.operands.toList.map (aev s.sl)) (o.op.operands.toList.map ρ)):
 ∃ v γ',(execOp ρ o).run P w=.ok (.value v) w/\StG C γ' M s' (a.put o.dst v) w:=by
 obtain⟨dst,op,type,pos,after,guard⟩:=o
 dsimp only at *
 obtain⟨x,y,rfl⟩:=zBa hcut
 generalize hxs:(List.map (aev s.sl) (Op.slice t x none (some y) none).operands.toList)=xs at h hx
 unfold zuU at h
 split at h
 .rename_i d id kk hi hdst hd
  dsimp only at hdst hd
  subst hdst
  have hx:zB γ M [.arr id,.p (.int kk hi)] [ρ x,ρ y]:=hx
  split at h
  .rename_i e l hus hob hsz
   cases h
   cases hx with|cons ha hx=>
   cases hx with|cons hb hx=>
   obtain⟨ad,k,n,cap,hg,e1⟩:=ha.arr_inv
   have e2:=hb.int_inv.1
   obtain⟨ad',cap',hg',hA⟩:=hs.ob id _ hob
   rw[hg]at hg';cases hg'
   obtain⟨h0,h1⟩:0<=hi/\hi<=(l.length:Int):=hok
   obtain⟨m,rfl⟩:=Int.eq_ofNat_of_zero_le h0
   have hm:m<=l.length:=by omega
   obtain⟨e',he',hs1⟩:=Option.bind_eq_some_iff.1 hsz
   obtain⟨i,hi1,hi2⟩:=ziC hs1
   have hu:=zaA he'
   have hel:P.elem t=e':=by simp[Program.elem,hu]
   have hnc:l.length<=cap:=by
    rcases hA.own.2 with⟨hv,h0⟩|⟨g',cap',cur,hv,_,_,hnc,_⟩
    .omega
    .simp only[yX,Value.slice.injEq]at hv
     omega
   have hrun:(execOp ρ ⟨some d,.slice t x none (some y) none,type,pos,after,guard⟩).run P w=.ok (.value (yX ad m cap)) w:=by
    have hs2:=run_slice_h (P:=P) (w:=w) t (ad.map fun g=>⟨g,0,none⟩) l.length cap (by rw[hel];exact hu) kk (m:Int) (by omega) (by omega)
    have h3:=run_sliceAt_slice (P:=P) (w:=w) t (ρ x) none (some (ρ y)) none (by rw[hel];exact hu)
    rw[e1,e2]at h3
    simp only[execOp,Option.map_none,Option.map_some,e1,e2,Sem.run_bind]
    unfold yX at *
    rw[h3,hs2,hel,yu hs1]
    simp only[Result.andThen_ok,sliced,Int.toNat_natCast,Nat.sub_zero,Nat.zero_mul]
    cases ad with
    | none=>simp
    | some g=>simp[zad]
   refine⟨yX ad m cap,upd γ d (some (.arr ad 1 m cap)),hrun,?_⟩
   have hγ:GLe γ (upd γ d (some (.arr ad 1 m cap))):=by
    intro i g' hi
    by_cases e:i=d
    .subst e;rw[hs.us i hus]at hi;cases hi
    .rw [zC _ _ e];exact hi
   refine hs.master (s':=zae s d (some id) (.barr e true (l.take m))) hγ (MLe.refl M)
    (zg5 (dst:=some d) (by rw[hs.nt];exact hd) (fun t=>(hs.sl t).mono hγ (MLe.refl M)) (.arr d _ _ _ _ (zw _ _ _))) (by rw[zeE];exact hs.nt) (by rw[zb6];exact hs.df) d
    ?_ (fun i hi=>zC _ _ hi) ?_ ?_ (fun _ _ _ _ _ _ _=>⟨rfl,rfl⟩) ?_ ?_ (Nat.le_refl _) hs.mem (fun _ _ _=>rfl) hs.fr
   .intro i hi
    show upd (zbh s.ob (some id)) d _ i=none\/upd (zbh s.ob (some id)) d _ i=s.ob i
    rw[zC _ _ hi]
    rcases Classical.em (zbh s.ob (some id) i=none)with e|e
    .exact .inl e
    .exact .inr (zdf e).1
   .intro i hi
    have hi':upd s.us d true i=false:=hi
    by_cases e:i=d
    .subst e;rw[zw]at hi';cases hi'
    .rw [zC _ _ e]at hi';exact⟨hi',e⟩
   .intro o' ho'
    have ho':upd (zbh s.ob (some id)) d (some (AObj.barr e true (l.take m))) d=some o':=ho'
    rw[zw]at ho';cases ho'
    have hlen:(l.take m).length=m:=by simp;omega
    refine⟨ad,cap,by rw[hlen];exact zw _ _ _,⟨?_,?_,?_,?_⟩⟩
    .rw [hlen]
     refine⟨by simp;omega,?_⟩
     rcases hA.own.2 with⟨hv,hn0⟩|⟨g',cap',cur,hv,hz,hh,hnc',hcm,hcs,htk⟩
     .have:m=0:=by omega
      subst this
      rw[hn0]at hv
      exact .inl ⟨hv,rfl⟩
     .simp only[yX,Value.slice.injEq]at hv
      obtain⟨hv1,_,hv3⟩:=hv
      subst hv3
      refine .inr ⟨g',cap,cur,by simp only[yX];rw[hv1],hz,hh,by omega,hcm,hcs,?_⟩
      rw[Nat.mul_one]at htk ⊢
      rw[List.map_take,<-htk,List.take_take,Nat.min_eq_left hm]
    .exact zl2 _
    .rw [hlen];exact Nat.le_trans hm hA.len
    .intro g hgg;exact hA.mem g hgg
   .intro i g g' b hi hob' hob2 hgi hgd hb hb'
    have hgd:upd γ d (some (.arr ad 1 m cap)) d=some g':=hgd
    rw[zw]at hgd;cases hgd
    have hob':upd (zbh s.ob (some id)) d (some (AObj.barr e true (l.take m))) i≠none:=hob'
    rw[zC _ _ hi]at hob'
    obtain⟨q1,q2⟩:=zdf hob'
    rw[q1]at hob'
    have:=hs.sep i id g _ b hob' (by rw[hob];simp) hgi hg hb hb'
    exact q2 (by rw[this])
   .intro g b _ hgd hb
    have hgd:upd γ d (some (.arr ad 1 m cap)) d=some g:=hgd
    rw[zw]at hgd;cases hgd
    exact hs.lo id _ b (by rw[hob];simp) hg hb
  .rename_i e k0 c l k' hus hob hsz
   split at h
   .rename_i hkb
    have hkk:k0=k':=Nat.eq_of_beq_eq_true hkb
    subst hkk
    cases h
    cases hx with|cons ha hx=>
    cases hx with|cons hb hx=>
    obtain⟨ad,k,n,cap,hg,e1⟩:=ha.arr_inv
    have e2:=hb.int_inv.1
    obtain⟨ad',cap',vs,hg',hR,hA⟩:=hs.ob id _ hob
    rw[hg]at hg';cases hg'
    have hRn:(Rows.dat c l).n=l.length:=rfl
    rw[hRn]at hA hR hg
    obtain⟨h0,h1⟩:0<=hi/\hi<=(l.length:Int):=hok
    obtain⟨m,rfl⟩:=Int.eq_ofNat_of_zero_le h0
    have hm:m<=l.length:=by omega
    obtain⟨e',he',hs1⟩:=Option.bind_eq_some_iff.1 hsz
    obtain⟨i,hi1,hi2⟩:=ziC hs1
    have hu:=zaA he'
    have hel:P.elem t=e':=by simp[Program.elem,hu]
    have hnc:l.length<=cap:=by
     rcases hA.own.2 with⟨hv,h0⟩|⟨g',cap',cur,hv,_,_,hnc,_⟩
     .omega
     .simp only[yX,Value.slice.injEq]at hv
      omega
    have hrun:(execOp ρ ⟨some d,.slice t x none (some y) none,type,pos,after,guard⟩).run P w=.ok (.value (yX ad m cap)) w:=by
     have hs2:=run_slice_h (P:=P) (w:=w) t (ad.map fun g=>⟨g,0,none⟩) l.length cap (by rw[hel];exact hu) kk (m:Int) (by omega) (by omega)
     have h3:=run_sliceAt_slice (P:=P) (w:=w) t (ρ x) none (some (ρ y)) none (by rw[hel];exact hu)
     rw[e1,e2]at h3
     simp only[execOp,Option.map_none,Option.map_some,e1,e2,Sem.run_bind]
     unfold yX at *
     rw[hRn]at h3 ⊢
     rw[h3,hs2,hel,yu hs1]
     simp only[Result.andThen_ok,sliced,Int.toNat_natCast,Nat.sub_zero,Nat.zero_mul]
     cases ad with
     | none=>simp
     | some g=>simp[zad]
    refine⟨yX ad m cap,upd γ d (some (.arr ad k0 m cap)),hrun,?_⟩
    have hγ:GLe γ (upd γ d (some (.arr ad k0 m cap))):=by
     intro i g' hi
     by_cases e:i=d
     .subst e;rw[hs.us i hus]at hi;cases hi
     .rw [zC _ _ e];exact hi
    have hlen:(Rows.dat c (l.take m)).n=m:=by show(l.take m).length=m;simp;omega
    refine hs.master (s':=zae s d (some id) (.larr e true k0 (.dat c (l.take m)))) hγ (MLe.refl M)
     (zg5 (dst:=some d) (by rw[hs.nt];exact hd) (fun t=>(hs.sl t).mono hγ (MLe.refl M)) (.arr d _ _ _ _ (zw _ _ _))) (by rw[zeE];exact hs.nt) (by rw[zb6];exact hs.df) d
     ?_ (fun i hi=>zC _ _ hi) ?_ ?_ (fun _ _ _ _ _ _ _=>⟨rfl,rfl⟩) ?_ ?_ (Nat.le_refl _) hs.mem (fun _ _ _=>rfl) hs.fr
    .intro i hi
     show upd (zbh s.ob (some id)) d _ i=none\/upd (zbh s.ob (some id)) d _ i=s.ob i
     rw[zC _ _ hi]
     rcases Classical.em (zbh s.ob (some id) i=none)with e|e
     .exact .inl e
     .exact .inr (zdf e).1
    .intro i hi
     have hi':upd s.us d true i=false:=hi
     by_cases e:i=d
     .subst e;rw[zw]at hi';cases hi'
     .rw [zC _ _ e]at hi';exact⟨hi',e⟩
    .intro o' ho'
     have ho':upd (zbh s.ob (some id)) d (some (AObj.larr e true k0 (.dat c (l.take m)))) d=some o':=ho'
     rw[zw]at ho';cases ho'
     have hvl:vs.length=l.length*k0:=hA.own.1
     have hmk:m*k0<=l.length*k0:=Nat.mul_le_mul_right _ hm
     refine⟨ad,cap,vs.take (m*k0),by rw[hlen];exact zw _ _ _,?_,⟨?_,?_,?_,?_⟩⟩
     .intro i j hi hj
      rw[hlen]at hi
      obtain⟨v,hv,hr⟩:=hR i j (by omega) hj
      have hij:i*k0+j<m*k0:=by
       have:(i+1)*k0<=m*k0:=Nat.mul_le_mul_right _ hi
       rw[Nat.add_mul,Nat.one_mul]at this;omega
      refine⟨v,by rw[List.getElem?_take_of_lt hij];exact hv,?_⟩
      have e3:(Rows.dat c (l.take m)).f i j=(Rows.dat c l).f i j:=by
       show cell c ((l.take m).getD i (dfl c)) j=cell c (l.getD i (dfl c)) j
       rw[List.getD_eq_getElem?_getD,List.getD_eq_getElem?_getD,List.getElem?_take_of_lt hi]
      rw[e3];exact hr
     .rw [hlen]
      refine⟨by rw[List.length_take,hvl];omega,?_⟩
      rcases hA.own.2 with⟨hv,hn0⟩|⟨g',cap',cur,hv,hz,hh,hnc',hcm,hcs,htk⟩
      .have:m=0:=by omega
       subst this
       rw[hn0]at hv
       exact .inl ⟨hv,rfl⟩
      .simp only[yX,Value.slice.injEq]at hv
       obtain⟨hv1,_,hv3⟩:=hv
       subst hv3
       refine .inr ⟨g',cap,cur,by simp only[yX];rw[hv1],hz,hh,by omega,hcm,hcs,?_⟩
       rw[<-htk,List.take_take,Nat.min_eq_left hmk]
     .intro v hv;exact hA.one v (List.mem_of_mem_take hv)
     .rw [hlen];exact Nat.le_trans hm hA.len
     .intro g hgg;exact hA.mem g hgg
    .intro i g g' b hi hob' hob2 hgi hgd hb hb'
     have hgd:upd γ d (some (.arr ad k0 m cap)) d=some g':=hgd
     rw[zw]at hgd;cases hgd
     have hob':upd (zbh s.ob (some id)) d (some (AObj.larr e true k0 (.dat c (l.take m)))) i≠none:=hob'
     rw[zC _ _ hi]at hob'
     obtain⟨q1,q2⟩:=zdf hob'
     rw[q1]at hob'
     have:=hs.sep i id g _ b hob' (by rw[hob];simp) hgi hg hb hb'
     exact q2 (by rw[this])
    .intro g b _ hgd hb
     have hgd:upd γ d (some (.arr ad k0 m cap)) d=some g:=hgd
     rw[zw]at hgd;cases hgd
     exact hs.lo id _ b (by rw[hob];simp) hg hb
   .cases h
  .cases h
 .cases h
def zDe(ob:Nat->Option AObj):AV->AV
 | .arr id=>match zbV ob (.arr id)with
  | some z=>z
  | none=>.arr id
 | x=>x
def zIe(ob:Nat->Option AObj):AV->AV
 | .agg cs=>.agg (cs.map (zDe ob))
 | x=>zDe ob x
theorem zst(hs:StG C γ M s a w){x:AV}{v:Value}(hx:zp γ M x v):zp γ M (zDe s.ob x) v:=by
 cases x with
 | arr id=>
  simp only[zDe]
  cases hz:zbV s.ob (.arr id)with
  | none=>exact hx
  | some z=>exact(zai hs hz hx).mono (fun _ _ hx=>by cases hx) (MLe.refl M)
 | _=>exact hx
theorem zEV(hs:StG C γ M s a w){x:AV}{v:Value}(hx:zp γ M x v):zp γ M (zIe s.ob x) v:=by
 cases x with
 | agg cs=>
  obtain⟨vs,rfl,hsz,hr⟩:=hx.agg_inv
  refine .agg _ _ (by simpa using hsz) fun i hi=>?_
  have hi':i<cs.length:=by simpa using hi
  have:=hr i hi'
  rw[List.getD_eq_getElem?_getD,List.getElem?_eq_getElem hi']at this
  rw[List.getD_eq_getElem?_getD,List.getElem?_map,List.getElem?_eq_getElem hi']
  exact zst hs this
 | _=>exact zst hs hx
theorem zEU(hs:StG C γ M s a w){xs:List AV}{vs:List Value}(hx:zB γ M xs vs):zB γ M (xs.map (zIe s.ob)) vs:=by
 induction hx with
 | nil=>exact .nil
 | cons h _ ih=>exact .cons (zEV hs h) ih
def zTZ:Op->Bool
 | .buildSlice _ _ _=>true
 | _=>false
def zJ(P:Program)(env:Env)(envR:zbd)(nt:Nat)(ops:Array Oper)(rs:List Nat)(i:Nat)(o:Oper)(s:S):Option (S×List Prop):=
 match zaa i rs with
 | false=>yx P env nt ops o s
 | true=>match o.guard with
  | none=>match zKW o.op with
   | some (sT,d2)=>match o.dst,zlX P sT d2 (o.op.operands.toList.map (aev s.sl)),yL nt o.dst with
    | some d,some (ob,ok),true=>match s.us d with
     | false=>some (yI s d ob,oks none ok)
     | true=>none
    | _,_,_=>none
   | none=>match zDT o.op with
    | some t=>(zuU P nt o t s (o.op.operands.toList.map (aev s.sl))).map fun r=>(r.1,oks none r.2)
    | none=>match zTZ o.op,yL nt o.dst with
     | true,true=>(evE P s o ((o.op.operands.toList.map (aev s.sl)).map (zIe s.ob))).map fun r=>(r.1,oks none r.2)
     | true,false=>none
     | false,_=>(evR envR nt o s (o.op.operands.toList.map (aev s.sl))).map fun r=>(r.1,oks none r.2)
  | some _=>match zV ops s.sl o,yL nt o.dst with
   | some (some c),true=>(evE P s o (zP (some c) o.op (o.op.operands.toList.map (aev s.sl))).1).map fun r=>(r.1,(zP (some c) o.op (o.op.operands.toList.map (aev s.sl))).2++((c=true)::oks none r.2))
   | _,_=>none
def yn(P:Program)(env:Env)(envR:zbd)(nt:Nat)(ops:Array Oper)(rs:List Nat):List Nat->S->Option (S×List Prop)
 | [],s=>some (s,[])
 | i::r,s=>match ops[i]? with
  | none=>none
  | some o=>match zJ P env envR nt ops rs i o s with
   | none=>none
   | some (s1,p1)=>match yn P env envR nt ops rs r s1 with
    | none=>none
    | some (s2,p2)=>some (s2,p1++p2)
theorem zbN{env:Env}(henv:zau P env){envR:zbd}(henvR:zaR P envR){ops:Array Oper}{rs:List Nat}{i:Nat}{o:Oper}{ps:List Prop}
 (h:zJ P env envR C.nt ops rs i o s=some (s',ps)) (hps:All ps)
 (hs:St C s a w) {next:Act->World->Prop} {Q:Exit->Act->World->Prop} (hn:∀ a' w',St C s' a' w'->next a' w'):
 if Region.wanted o (yielded ops a.tmps) then o.wpIn (FW C.rd) 0 P a w next Q else next (a.put o.dst undef) w:=by
 unfold zJ at h
 split at h
 .exact zgs henv h hps hs hn
 .split at h
  .rename_i hg
   have hw:Region.wanted o (yielded ops a.tmps)=true:=by unfold Region.wanted;rw[hg]
   split at h
   .rename_i sT d2 hconv
    split at h
    .rename_i d ob ok hdst hev hdok
     split at h
     .rename_i hus
      cases h
      obtain⟨γ,M,hs⟩:=hs
      rw[if_pos hw]
      obtain⟨x,hop⟩:=zxX hconv
      have hargs:zB γ M (o.op.operands.toList.map (aev s.sl)) (o.op.operands.toList.map a.eval):=zB.map (zed hs.sl) _
      obtain⟨v,w',γ',M',hrun,hst⟩:=zrH (P:=P) hs o hdst (by rw[<-hdst];exact hdok) hus hop hev hargs
      refine zb3 hrun ?_
      rw[<-hdst]at hst
      exact hn _ _ ⟨γ',M',hst⟩
     .cases h
    .cases h
   split at h
   .rename_i t hcut
    obtain⟨⟨s1,ok⟩,he,hh⟩:=map_some h
    cases hh
    obtain⟨γ,M,hs⟩:=hs
    rw[if_pos hw]
    have hargs:zB γ M (o.op.operands.toList.map (aev s.sl)) (o.op.operands.toList.map a.eval):=zB.map (zed hs.sl) _
    obtain⟨v,γ',hrun,hst⟩:=zrD (P:=P) hs o hcut he (by cases ok with|none=>trivial|some p=>exact hps.1) hargs
    refine zb3 hrun ?_
    exact hn _ _ ⟨γ',M,hst⟩
   split at h
   .rename_i hdk
    obtain⟨⟨s1,ok⟩,hE,hh⟩:=map_some h
    cases hh
    obtain⟨γ,M,hs⟩:=hs
    rw[if_pos hw]
    have hargs:zB γ M (o.op.operands.toList.map (aev s.sl)) (o.op.operands.toList.map a.eval):=zB.map (zed hs.sl) _
    refine zlW hs o hdk hE ?_ (zEU hs hargs) fun γ' M' a' w' hst=>hn _ _ ⟨γ',M',hst⟩
    cases ok with
    | none=>trivial
    | some p=>exact hps.1
   .cases h
   obtain⟨⟨s1,ok⟩,he,hh⟩:=map_some h
   cases hh
   obtain⟨γ,M,hs⟩:=hs
   rw[if_pos hw]
   have hargs:zB γ M (o.op.operands.toList.map (aev s.sl)) (o.op.operands.toList.map a.eval):=zB.map (zed hs.sl) _
   refine zGA henvR hs o he ?_ hargs hn
   cases ok with
   | none=>trivial
   | some p=>exact hps.1
  .split at h
   .rename_i c hg hd
    obtain⟨⟨s1,ok⟩,hE,he⟩:=map_some h
    cases he
    obtain⟨γ,M,hs⟩:=hs
    obtain⟨p1,hc,p2⟩:=All.append hps
    have hh:(Gd.holds (some c)):=hc
    obtain⟨hw1,_⟩:=zjA hs hg
    rw[if_pos (hw1 hh)]
    have hargs:zB γ M (o.op.operands.toList.map (aev s.sl)) (o.op.operands.toList.map a.eval):=zB.map (zed hs.sl) _
    have hok:okP ok:=by
     cases ok with
     | none=>trivial
     | some p=>exact p2.1
    exact zlW hs o hd hE hok (zdT hh hargs p1) fun γ' M' a' w' hst=>hn _ _ ⟨γ',M',hst⟩
   .cases h
theorem zx7{env:Env}(henv:zau P env){envR:zbd}(henvR:zaR P envR){ops:Array Oper}{rs:List Nat}{Q:Exit->Act->World->Prop}:∀ (l:List Nat) {s s':S} {ps:List Prop} {a:Act} {w:World},
 yn P env envR C.nt ops rs l s=some (s',ps)->All ps->St C s a w->(∀ a' w',St C s' a' w'->Q .normal a' w')->wpOpsIn (FW C.rd) 0 P ops Q l a w:=by
 intro l
 induction l with
 | nil=>intro s s' ps a w h hp hs hq;cases h;exact hq a w hs
 | cons i r ih=>
  intro s s' ps a w h hp hs hq
  simp only[yn]at h
  simp only[wpOpsIn]
  cases ho:ops[i]? with
  | none=>rw[ho]at h;cases h
  | some o=>
   rw[ho]at h
   dsimp only at h ⊢
   cases h1:zJ P env envR C.nt ops rs i o s with
   | none=>rw[h1]at h;cases h
   | some q=>
    obtain⟨s1,p1⟩:=q
    rw[h1]at h
    dsimp only at h
    cases h2:yn P env envR C.nt ops rs r s1 with
    | none=>rw[h2]at h;cases h
    | some q=>
     obtain⟨s2,p2⟩:=q
     rw[h2]at h
     cases h
     obtain⟨hp1,hp2⟩:=All.append hp
     have:=zbN henv henvR h1 hp1 hs (next:=wpOpsIn (FW C.rd) 0 P ops Q r) (Q:=Q) fun a' w' hs'=>ih h2 hp2 hs' hq
     split
     .rename_i hw;rw[if_pos hw]at this;exact this
     .rename_i hw;rw[if_neg hw]at this;exact⟨fun _ _=>trivial,this⟩
end Go.Am
/-! A function's body gives its contract. -/
namespace Go.Am
open Go Go.RowKit
variable {P:Program}{γ γ':Nat->Option G}{M M':Mem}{C:Ctx}{s s':S}{a a':Act}{w w':World}
def zdH(P:Program)(s:S):ResultVar->Option AV
 | .tmp t=>some (s.sl t)
 | .cell t ty=>match zcL P s.ob ty [s.sl t]with
  | some (r,none)=>some r
  | _=>none
def zeQ(P:Program)(s:S)(rs:List ResultVar):Option AV:=
 match zN (zdH P s) rs with
 | some [r]=>some r
 | some l=>some (.tup l)
 | none=>none
theorem zqa(hs:StG C γ M s a w){rv:ResultVar}{r:AV}(h:zdH P s rv=some r):
 ∃ v,(zwZ a.tmps rv).run P w=.ok v w/\zp γ M r v:=by
 cases rv with
 | tmp t=>cases h;exact⟨_,rfl,hs.sl t⟩
 | cell t ty=>
  simp only[zdH]at h
  split at h
  .rename_i r' hl
   cases h
   obtain⟨u,hu,hr⟩:=zfp (P:=P) hs hl trivial (hs.sl t)
   exact⟨u,zjj hu,hr⟩
  .cases h
theorem zfV(hs:StG C γ M s a w)(fn:Func){r:AV}(h:zeQ P s fn.results.toList=some r):
 ∃ v,(results fn a.tmps).run P w=.ok v w/\zp γ M r v:=by
 have key:∀ (l:List ResultVar) (rs:List AV),zN (zdH P s) l=some rs->∃ vs:List Value,
  (l.mapM (zwZ a.tmps)).run P w=.ok vs w/\zB γ M rs vs:=by
  intro l
  induction l with
  | nil=>intro rs h;cases h;exact⟨[],rfl,.nil⟩
  | cons x l ih=>
   intro rs h
   simp only[zN]at h
   cases hx:zdH P s x with
   | none=>rw[hx]at h;cases h
   | some y=>
    cases hl:zN (zdH P s) l with
    | none=>rw[hx,hl]at h;cases h
    | some ys=>
     rw[hx,hl]at h;cases h
     obtain⟨v,hv,hr⟩:=zqa (P:=P) hs hx
     obtain⟨vs,hvs,hrs⟩:=ih ys hl
     refine⟨v::vs,?_,.cons hr hrs⟩
     rw[List.mapM_cons]
     simp only[Sem.run_bind,hv,Sem.run_pure,Result.andThen_ok,hvs]
 unfold zeQ at h
 cases hl:zN (zdH P s) fn.results.toList with
 | none=>rw[hl]at h;cases h
 | some rs=>
  obtain⟨vs,hvs,hrs⟩:=key _ _ hl
  have hm:(fn.results.mapM (zwZ a.tmps)).run P w=.ok vs.toArray w:=by
   rw[Array.mapM_eq_mapM_toList,Sem.run_map,hvs];rfl
  have hres:(results fn a.tmps).run P w=.ok (if h:vs.toArray.size=1 then vs.toArray[0] else .tuple vs.toArray) w:=by
   rw[zpa,Sem.run_bind,hm]
   rfl
  rw[hl]at h
  refine⟨_,hres,?_⟩
  have hlen:=hrs.length
  split at h
  .rename_i r' heq
   cases heq;cases h
   cases hrs with
   | cons h1 h2=>cases h2 with|nil=>simpa using h1
  .rename_i l hne heq
   cases heq;cases h
   have hn1:vs.length≠1:=by
    intro e
    match rs,hlen with
    | [r],_=>exact hne r rfl
    | [],hl0=>simp at hl0;rw[hl0]at e;cases e
    | _::_::_,hl0=>simp at hl0;omega
   rw[dif_neg (by simpa using hn1)]
   refine .tup _ _ (by simp[hlen]) fun i hi=>?_
   have:=hrs.get i hi
   simpa[Array.getD_eq_getD_getElem?,List.getD_eq_getElem?_getD]using this
  .rename_i heq;cases heq
def zun(args:List AV)(ib:List (Nat×AObj)):S:={ sl:=fun i=>args.getD i .any,ob:=fun i=>zm i ib,us:=fun i=>(zm i ib).isSome }
def zdY(s:S)(zZ:List (Nat×AObj)):Prop:=(zZ.map fun p=>s.ob p.1)=zZ.map fun p=>some p.2
def zQR(C:Ctx)(res:S->Prop)(zZ:List (Nat×AObj)):Exit->S->Prop
 | .normal,s=>∃ s2,Sub C s s2/\res s2/\zdY s2 zZ
 | .ret,s=>∃ s2,Sub C s s2/\res s2/\zdY s2 zZ
 | _,_=>False
def zT2(P:Program)(C:Ctx)(rs:List ResultVar)(r:AV)(zZ:List (Nat×AObj)):Exit->S->Prop:=zQR C (fun s=>zeQ P s rs=some r) zZ
theorem zmv{zZ:List (Nat×AObj)}(h:zdY s zZ){i:Nat}{o:AObj}(ho:zm i zZ=some o):s.ob i=some o:=by
 have hm:=zaw ho
 unfold zdY at h
 clear ho
 induction zZ with
 | nil=>cases hm
 | cons p l ih=>
  simp only[List.map_cons,List.cons.injEq]at h
  rcases List.mem_cons.1 hm with e|e
  .rw [<-e]at h;exact h.1
  .exact ih h.2 e
theorem zHd{f:FuncId}{fn:Func}{args:List AV}{ib:List (Nat×AObj)}{kept:List Nat}{r:AV}{zZ:List (Nat×AObj)}{res:S->Prop}(hf:P.funcs[f]?=some fn)(hb:(fn.body.isSome,Nat.ble args.length fn.ntmps)=(true,true))
 (hsound:∀ {C:Ctx} {γ:Nat->Option G} {M:Mem} {s:S} {a:Act} {w:World},StG C γ M s a w->res s->∃ v,(results fn a.tmps).run P w=.ok v w/\zp γ M r v)
 (h:∀ (γ:Nat->Option G) (M:Mem) (w:World) (vs:List Value),zB γ M args vs->zhW γ M w (fun i=>zm i ib) (fun b=>b<w.heap.size)->∀ C:Ctx,zbA C fn.ntmps kept->T P C (at_ (yw fn) []) (zun args ib) (zQR C res zZ)):
 FnR P f args ib kept r zZ:=by
 intro γ M w vs hO hnone hM hvs
 simp only[Prod.mk.injEq]at hb
 obtain⟨c,hc⟩:=Option.isSome_iff_exists.1 hb.1
 have hcb:yw fn=c:=by unfold yw;rw[hc];rfl
 have hn:=Nat.le_of_ble_eq_true hb.2
 let C:Ctx:={ w0:=w,M0:=M,own:=Handed γ ib,nt:=fn.ntmps,g0:=fun i=>match zaa i kept with|true=>γ i|false=>none }
 have hg0:∀ i g,C.g0 i=some g->zaa i kept=true/\γ i=some g:=by
  intro i g hg
  simp only[C]at hg
  split at hg
  .rename_i he;exact⟨he,hg⟩
  .cases hg
 have hC:zbA C fn.ntmps kept:=⟨rfl,fun i g hg=>za0.1 (hg0 i g hg).1⟩
 have hlen:=hvs.length
 have hst:St C (zun args ib) { tmps:=vs.toArray++Array.replicate (fn.ntmps-vs.toArray.size) undef,defers:=[] } w:=by
  refine⟨γ,M,?_,hO.ob,?_,hO.sep,?_,hM.toMOk,MLe.refl M,fun _ _ _=>rfl,⟨rfl,rfl,rfl,Nat.le_refl _,fun _ _ _=>rfl,hM.tabs,hM.hand⟩,rfl,?_,fun i g hg=>(hg0 i g hg).2⟩
  .intro t
   show zp γ M (args.getD t .any) _
   by_cases ht:t<args.length
   .have:=hvs.get t ht
    have e:(vs.toArray++Array.replicate (fn.ntmps-vs.toArray.size) undef).getD t undef=vs.getD t undef:=by
     rw[Array.getD_eq_getD_getElem?,Array.getElem?_append_left (by simp;omega)]
     simp[List.getD_eq_getElem?_getD]
    rw[e];exact this
   .have e:args.getD t .any=.any:=by rw[List.getD_eq_getElem?_getD,List.getElem?_eq_none (by omega)];rfl
    rw[e];exact .any _
  .intro i hi
   have hi':(zm i ib).isSome=false:=hi
   refine hnone i ?_
   cases hl:zm i ib with
   | none=>rfl
   | some _=>rw[hl]at hi';cases hi'
  .intro id g b h1 h2 h3
   exact⟨.inr ⟨id,g,h1,h2,h3⟩,hO.lo id g b h1 h2 h3⟩
  .simp [C];omega
 have hT:=h γ M w vs hvs hO C hC
 rw[zl3,hcb]at hT
 refine calls_of_wp hf hc (wpIn_wide (n:=0) |>.1 <| wpIn_mono (hT _ w hst) fun e a' w' ⟨s',hq,hs'⟩=>?_)
 have fin:(∃ s2,Sub C s' s2/\res s2/\zdY s2 zZ)->a'.defers=[]/\∃ v,(results fn a'.tmps).run P w'=.ok v w'/\
  ∃ u γ' M',Ending.returned v=.returned u/\(∀ i ∈ kept,∀ g,γ i=some g->γ' i=some g)/\MLe M M'/\MOk M' w'/\zp γ' M' r u/\
  zhW γ' M' w' (fun i=>zm i zZ) (fun b=>(w.heap.size<=b\/Handed γ ib b)/\b<w'.heap.size)/\
  (∀ b,b<w.heap.size->¬ Handed γ ib b->w'.heap[b]?=w.heap[b]?/\M' b=M b)/\w.heap.size<=w'.heap.size/\w'.os=w.os/\w'.tape=w.tape/\w'.output=w.output:=by
  rintro⟨s2,hsub,hr,ho⟩
  obtain⟨γ',M',hs2⟩:=hsub a' w' hs'
  obtain⟨v,hv,hrel⟩:=hsound hs2 hr
  have hne:∀ {i},zm i zZ≠none->s2.ob i≠none:=by
   intro i hi
   cases hl:zm i zZ with
   | none=>exact absurd hl hi
   | some o=>rw[zmv ho hl];simp
  refine⟨hs2.df,v,hv,v,γ',M',rfl,fun i hi g hg=>hs2.gl i g ?_,hs2.le,hs2.mem,hrel,⟨fun i o hi=>hs2.ob i o (zmv ho hi),fun i j g g' b hi hj=>hs2.sep i j g g' b (hne hi) (hne hj),fun i g b hi=>hs2.lo i g b (hne hi)⟩,
   fun b hb hh=>⟨hs2.fr.block b hb hh,hs2.new b hb hh⟩,hs2.fr.size,hs2.fr.os,hs2.fr.tape,hs2.fr.output⟩
  simp only[C]
  rw[za0.2 hi];exact hg
 cases e with
 | normal=>exact fin hq
 | ret=>exact fin hq
 | _=>exact hq.elim
theorem zMv{f:FuncId}{fn:Func}{args:List AV}{ib:List (Nat×AObj)}{kept:List Nat}{r:AV}{zZ:List (Nat×AObj)}(hf:P.funcs[f]?=some fn)(hb:(fn.body.isSome,Nat.ble args.length fn.ntmps)=(true,true))
 (h:∀ (γ:Nat->Option G) (M:Mem) (w:World) (vs:List Value),zB γ M args vs->zhW γ M w (fun i=>zm i ib) (fun b=>b<w.heap.size)->∀ C:Ctx,zbA C fn.ntmps kept->T P C (at_ (yw fn) []) (zun args ib) (zT2 P C fn.results.toList r zZ)):
 FnR P f args ib kept r zZ:=
 zHd hf hb (fun hs hr=>zfV hs fn hr) h
def zlM(l:List (Nat×yM)):zbd:=fun f=>zm f l
theorem zdi{l:List (Nat×yM)}(h:All (l.map fun p=>zS P p.1 p.2)):zaR P (zlM l):=fun _ _ he=>zHU h _ (zaw he)
theorem zfx{a b:Bool}(h:a=true)(k:b=true):(a&&b)=true:=by rw[h,k];rfl
theorem zen{b:Bool}(h:b=false):(!b)=true:=by rw[h];rfl
end Go.Am
/-! Drawn regions with calls that change memory. -/
namespace Go.Am
open Go Go.RowKit
variable {P:Program}{C:Ctx}{s s':S}{a a':Act}{w w':World}
def zJB(ops:Array Oper)(rs:List Nat)(y x:Nat)(oy ox:Oper):Bool:=!zaa y rs&&!zaa x rs&&zlS ops oy ox
theorem zmn{env:Env}{envR:zbd}{rs:List Nat}{nt:Nat}{ops:Array Oper}{x y:Nat}{ox oy:Oper}{s s1 s2:S}{p1 p2:List Prop}(hi:zJB ops rs y x oy ox=true)
 (h1:zJ P env envR nt ops rs y oy s=some (s1,p1)) (h2:zJ P env envR nt ops rs x ox s1=some (s2,p2)):
 ∃ s1',zJ P env envR nt ops rs x ox s=some (s1',p2)/\zJ P env envR nt ops rs y oy s1'=some (s2,p1):=by
 unfold zJB at hi
 simp only[Bool.and_eq_true,Bool.not_eq_true']at hi
 obtain⟨⟨hy,hx⟩,hi⟩:=hi
 unfold zJ at *
 rw[hy]at h1 ⊢
 rw[hx]at h2 ⊢
 exact swap hi h1 h2
end Go.Am
/-! An append ahead of a birth;the rule for drawn regions with the wider independence. -/
namespace Go.Am
open Go Go.RowKit
variable {P:Program}{γ γ':Nat->Option G}{M M':Mem}{C:Ctx}{s s':S}{a a':Act}{w w':World}
theorem ziW{op:Op}(h:za3 op=true):zdw op=true:=by unfold zdw;rw[h];exact Bool.or_true _
theorem zNy{env:Env}{nt:Nat}{ops:Array Oper}{x y:Oper}{s s1 s2:S}{p1 p2:List Prop}(hap:Oper.apart ops y x=true)(hy:yk y.op=true)(hx:za3 x.op=true)(hsem:zbE s x)
 (h1:yx P env nt ops y s=some (s1,p1)) (h2:yx P env nt ops x s1=some (s2,p2)) (hp:All p2):
 ∃ s1',yx P env nt ops x s=some (s1',p2)/\yx P env nt ops y s1'=some (s2,p1):=by
 obtain⟨a1,a2,a3⟩:=zaz hap
 rw[yc (zbJ (zdg hy))]at h1
 rw[yc (zbJ (ziW hx))]at h2
 obtain⟨hv,e1,_,_⟩:=za9 h1
 obtain⟨hg,d,hdst,hdk,hu,hform⟩:=zb8 (zdg hy) h1
 obtain⟨hgx,dx,hdstx,hdkx,hux,hformx⟩:=zb8 (ziW hx) h2
 have hne:dx≠d:=fun e=>a2 d hdst (by rw[hdstx,e])
 have hargs:zQ s1 x=zQ s x:=by unfold zQ;rw[e1];exact yQ a1 s.sl hv
 have hgx':zV ops s.sl x=some none:=by rw[<-hgx,e1];exact(zar a1 s.sl hv).symm
 rcases hform with⟨hb,o,ok,hBy,ho,hs1,hp1⟩|⟨_,_,_,_,_,_,_,hop,_⟩
 .rcases hformx with⟨hbx,_⟩|⟨as,ts,t,tx,x',y',r,hop,ht,htx,hsz,hxs,hr,hs2,hp2⟩
  .exfalso
   unfold za3 at hx
   split at hx
   .rename_i hop;rw[hop]at hbx;cases hbx
   .cases hx
  .rw [hargs]at hxs hp2
   have hus:s.us dx=false:=by rw[hs1]at hux;exact(zC s.us true hne).symm.trans hux
   have hob:s.ob dx=none:=hsem.free dx hus
   rw[hp2]at hp
   obtain⟨γ,M,vs,hrel,hfree⟩:=hsem.rel (All.append hp).1
   rw[hxs]at hrel
   have hγ:=hfree d hu
   have kx:∀ i,x'=.arr i->i≠d:=by
    intro i e ei
    obtain⟨v,hv⟩:=hrel.head
    rw[e]at hv
    exact zdd hv (by rw[ei];exact hγ)
   have ky:∀ i,y'=.arr i->i≠d:=by
    intro i e ei
    obtain⟨vs',ht⟩:=hrel.tail
    obtain⟨v,hv⟩:=ht.head
    rw[e]at hv
    exact zdd hv (by rw[ei];exact hγ)
   have back:∀ i,i≠d->∀ o',s1.ob i=some o'->s.ob i=some o':=by
    intro i hi o' h
    rw[hs1]at h
    exact(zC s.ob _ hi).symm.trans h
   have hr':zaL P s.ob t tx [x',y']=some r:=zgq (fun i e=>back i (kx i e)) (fun i e=>back i (ky i e)) hr
   have hold:r.2.1≠some d:=fun e=>kx d (zfq hr e).1 rfl
   refine⟨zae s dx r.2.1 r.1,?_,?_⟩
   .rw [yc (zbJ (ziW hx)),zjG hgx' hdstx hdkx hus hop ht htx hsz hxs hr',hp2]
   .rw [yc (zbJ (zdg hy))]
    have a3':∀ d,some dx=some d->d ∉ Oper.looksAt ops y:=fun d hd=>a3 d (by rw[hdstx];exact hd)
    have hgy:zV ops (zae s dx r.2.1 r.1).sl y=some none:=(zar (dst:=some dx) a3' s.sl _).trans hg
    have hargy:zQ (zae s dx r.2.1 r.1) y=zQ s y:=yQ (dst:=some dx) a3' s.sl _
    have huy:(zae s dx r.2.1 r.1).us d=false:=(zC s.us true (fun e=>hne e.symm)).trans hu
    have hoy:(zae s dx r.2.1 r.1).ob d=none:=by
     refine(zC (zbh s.ob r.2.1) _ (fun e=>hne e.symm)).trans ?_
     rw[zPE hold];exact ho
    rw[zgr hgy hdst hdk huy hb (by rw[hargy];exact hBy) hoy,hargy,hs2,hs1,hp1]
    unfold yI zae
    dsimp only
    rw[zaT s.sl _ _ hne,zxT hold,zaT (zbh s.ob r.2.1) _ _ hne,zaT s.us _ _ hne]
 .exact (zjU hy hop).elim
end Go.Am
/-! What is known of a state and an operation stays known over operations that it does not see. -/
namespace Go.Am
open Go Go.RowKit
variable {P:Program}{γ γ':Nat->Option G}{M M':Mem}{C:Ctx}{s s':S}{a a':Act}{w w':World}
theorem zuW{ob:Nat->Option AObj}{t:TypeId}{xs:List AV}{r:Nat×AObj×Option Prop}(h:zgo P ob t xs=some r):ob r.1≠none:=by
 unfold zgo at h
 split at h
 .split at h
  .split at h
   .cases h;simp[*]
   .cases h
  .cases h
 .cases h
theorem zxL{ob:Nat->Option AObj}{t:TypeId}{xs:List AV}{r:Nat×AObj×Option Prop}(h:zd7 P ob t xs=some r):ob r.1≠none:=by
 unfold zd7 at h
 split at h
 .rename_i id off x
  split at h
  .split at h
   .cases h;simp[*]
   .cases h
  .split at h
   .cases h;simp[*]
   .cases h
  .cases h
 .rename_i id i j x
  split at h
  .split at h
   .cases h;simp[*]
   .cases h
  .split at h
   .cases h;simp[*]
   .cases h
  .split at h
   .split at h
    .split at h
     .cases h;simp[*]
     .cases h
    .cases h
   .cases h
  .cases h
 .cases h
theorem zbE.step{env:Env}{nt:Nat}{ops:Array Oper}{x y:Oper}{s s1:S}{p1:List Prop}(hap:Oper.apart ops y x=true)(h1:yx P env nt ops y s=some (s1,p1))(hsem:zbE s x):zbE s1 x:=by
 obtain⟨a1,_,_⟩:=zaz hap
 have fin:∀ s1:S,(∃ v,s1.sl=yo s.sl y.dst v)->(∀ d,s1.us d=false->s.us d=false)->(∀ d,s1.us d=false->s1.ob d=none)->zbE s1 x:=by
  rintro s1 ⟨v,hs⟩ hu ho
  have hargs:zQ s1 x=zQ s x:=by unfold zQ;rw[hs];exact yQ a1 s.sl v
  refine⟨ho,?_⟩
  rw[hargs]
  intro hp
  obtain⟨γ,M,vs,h1,h2⟩:=hsem.rel hp
  exact⟨γ,M,vs,h1,fun d hd=>h2 d (hu d hd)⟩
 cases ey:zax y.op with
 | false=>
  rw[yh ey]at h1
  obtain⟨ry,hy,he⟩:=map_some h1
  cases he
  exact fin _ ⟨ry.v,rfl⟩ (fun d hd=>hd) (fun d hd=>hsem.free d hd)
 | true=>
  rw[yc ey]at h1
  obtain⟨hv,e1,_,_⟩:=za9 h1
  by_cases hm:zdw y.op=true
  .obtain ⟨_,d,hdst,_,hu,hform⟩:=zb8 hm h1
   have key:∀ i,(upd s.us d true) i=false->i≠d/\s.us i=false:=by
    intro i hi
    have:i≠d:=by intro e;rw[e,zw]at hi;cases hi
    exact⟨this,(zC s.us true this).symm.trans hi⟩
   rcases hform with⟨_,o,ok,_,ho,hs1,_⟩|⟨_,_,_,_,_,_,r,_,_,_,_,_,_,hs1,_⟩
   .refine fin _ ⟨hv,e1⟩ (fun i hi=>?_) (fun i hi=>?_)
    .rw [hs1]at hi;exact(key i hi).2
    .rw [hs1]at hi ⊢
     obtain⟨h2,h3⟩:=key i hi
     exact(zC s.ob _ h2).trans (hsem.free i h3)
   .refine fin _ ⟨hv,e1⟩ (fun i hi=>?_) (fun i hi=>?_)
    .rw [hs1]at hi;exact(key i hi).2
    .rw [hs1]at hi ⊢
     obtain⟨h2,h3⟩:=key i hi
     refine(zC (zbh s.ob r.2.1) _ h2).trans ?_
     cases hq:r.2.1 with
     | none=>exact hsem.free i h3
     | some j=>
      unfold zbh
      by_cases e:i=j
      .rw [e];exact zw _ _ _
      .exact (zC s.ob _ e).trans (hsem.free i h3)
  . -- a store
   unfold zd8 at h1
   split at h1
   .obtain ⟨⟨s2,ok⟩,hE,he⟩:=map_some h1
    cases he
    unfold evE at hE
    split at hE
    .rename_i t xx yy hop
     split at hE
     .obtain ⟨r,hr,he⟩:=map_some hE
      cases he
      refine fin _ ⟨hv,e1⟩ (fun i hi=>hi) (fun i hi=>?_)
      have hi':s.us i=false:=hi
      have:i≠r.1:=by intro e;exact zxL hr (e ▸ hsem.free i hi')
      exact(zC s.ob _ this).trans (hsem.free i hi')
     .cases hE
    .rename_i t xx yy zz hop
     split at hE
     .obtain ⟨r,hr,he⟩:=map_some hE
      cases he
      refine fin _ ⟨hv,e1⟩ (fun i hi=>hi) (fun i hi=>?_)
      have hi':s.us i=false:=hi
      have:i≠r.1:=by intro e;exact zuW hr (e ▸ hsem.free i hi')
      exact(zC s.ob _ this).trans (hsem.free i hi')
     .cases hE
    .rename_i as ts hop
     exact absurd (by rw[hop];rfl) hm
    .rename_i hn1 hn3 hn2
     exfalso
     refine hm ?_
     cases hop:y.op <;> rw[hop]at ey <;> first|rfl|(simp only[zax,yk,reduceCtorEq]at ey)
     .exact absurd hop (hn1 _ _ _)
     .exact absurd hop (hn3 _ _ _ _)
     .rename_i c
      obtain⟨callee,args,ts⟩:=c
      cases callee with
      | builtin b=>
       cases b <;> first
        | rfl
        | (simp only[reduceCtorEq]at ey)
      | value f=>simp only[reduceCtorEq]at ey
      | invoke r m=>simp only[reduceCtorEq]at ey
   .cases h1
end Go.Am
/-! The rule for drawn regions, with the wider independence. -/
namespace Go.Am
open Go Go.RowKit
variable {P:Program}{C:Ctx}{s s':S}{a a':Act}{w w':World}
def zuG(ops:Array Oper)(y x:Oper):Bool:=
 Oper.apart ops y x&&x.guard.isNone&&((zdw y.op&&!zax x.op)||(zdw y.op&&yk x.op)||(yk y.op&&za3 x.op))
def zep(ops:Array Oper)(rs:List Nat)(y x:Nat)(oy ox:Oper):Bool:=!zaa y rs&&!zaa x rs&&(zlS ops oy ox||zuG ops oy ox)
theorem zd4{ops:Array Oper}{rs:List Nat}{y x:Nat}{oy ox:Oper}(h:zep ops rs y x oy ox=true):zaa y rs=false/\zaa x rs=false/\(zlS ops oy ox=true\/zuG ops oy ox=true)/\Oper.apart ops oy ox=true:=by
 unfold zep at h
 simp only[Bool.and_eq_true,Bool.not_eq_true',Bool.or_eq_true]at h
 obtain⟨⟨h1,h2⟩,h3⟩:=h
 refine⟨h1,h2,h3,?_⟩
 rcases h3 with h3|h3
 .unfold zlS at h3;rw[Bool.and_eq_true]at h3;exact h3.1
 .unfold zuG at h3;simp only[Bool.and_eq_true]at h3;exact h3.1.1
theorem zIa{env:Env}{envR:zbd}{rs:List Nat}{nt:Nat}{ops:Array Oper}{x y:Nat}{ox oy:Oper}{s s1 s2:S}{p1 p2:List Prop}(hi:zep ops rs y x oy ox=true)(hsem:zbE s ox)
 (h1:zJ P env envR nt ops rs y oy s=some (s1,p1)) (h2:zJ P env envR nt ops rs x ox s1=some (s2,p2)) (hp:All p2):
 ∃ s1',zJ P env envR nt ops rs x ox s=some (s1',p2)/\zJ P env envR nt ops rs y oy s1'=some (s2,p1):=by
 obtain⟨hy,hx,hk,hap⟩:=zd4 hi
 unfold zJ at *
 rw[hy]at h1 ⊢
 rw[hx]at h2 ⊢
 rcases hk with hk|hk
 .exact swap hk h1 h2
 .unfold zuG at hk
  simp only[Bool.and_eq_true,Bool.or_eq_true,Bool.not_eq_true',Option.isNone_iff_eq_none]at hk
  obtain⟨⟨_,hg⟩,(⟨hm,hv⟩|⟨hm,hb⟩)|⟨hb,ha⟩⟩:=hk
  .exact zNw hap hm hv hg hsem h1 h2 hp
  .exact zNx hap hm hb hsem h1 h2
  .exact zNy hap hb ha hsem h1 h2 hp
theorem zbE.stepW{env:Env}{envR:zbd}{rs:List Nat}{nt:Nat}{ops:Array Oper}{x y:Nat}{ox oy:Oper}{s s1:S}{p1:List Prop}(hi:zep ops rs y x oy ox=true)
 (h1:zJ P env envR nt ops rs y oy s=some (s1,p1)) (hsem:zbE s ox):zbE s1 ox:=by
 obtain⟨hy,_,_,hap⟩:=zd4 hi
 unfold zJ at h1
 rw[hy]at h1
 exact zbE.step hap h1 hsem
def zjK(ops:Array Oper)(rs:List Nat):Bool:=
 (List.range ops.size).all fun x=>(List.range x).all fun y=>
  ((zmz ops.toList []).getD x 0).testBit y||(match ops[y]?,ops[x]? with
   | some oy,some ox=>zep ops rs y x oy ox
   | _,_=>false)
theorem zu1{ops:Array Oper}{rs:List Nat}(h:zjK ops rs=true){x y:Nat}{ox oy:Oper}(hxy:y<x)(hx:ops[x]?=some ox)(hy:ops[y]?=some oy)
 {listed:Nat->Bool} (hc:zdK ops listed) (hd:zQt ops listed x) (hny:listed y=false):zep ops rs y x oy ox=true:=by
 unfold zjK at h
 have hlt:x<ops.size:=(Array.getElem?_eq_some_iff.1 hx).1
 have h1:=List.all_eq_true.1 h x (List.mem_range.2 hlt)
 have h2:=List.all_eq_true.1 h1 y (List.mem_range.2 hxy)
 rw[hx,hy]at h2
 rw[Bool.or_eq_true]at h2
 rcases h2 with h2|h2
 .exfalso
  cases hm:(zmz ops.toList [])[x]? with
  | none=>rw[List.getD_eq_getElem?_getD,hm]at h2;simp at h2
  | some m=>
   rw[List.getD_eq_getElem?_getD,hm]at h2
   have:=zjr (ops:=ops) ops.toList [] (fun i o ho=>by simpa using ho) (fun x m hx=>by simp at hx) x m hm listed hc hd y h2
   rw[hny]at this;cases this
 .exact h2
theorem zD2{env:Env}{envR:zbd}{rs:List Nat}{nt:Nat}{ops:Array Oper}{x:Nat}{ox:Oper}(hx:ops[x]?=some ox):∀ (l1 l2:List Nat) (s s':S) (ps:List Prop),
 (∀ y ∈ l1,∀ oy,ops[y]?=some oy->zep ops rs y x oy ox=true)->zbE s ox->All ps->yn P env envR nt ops rs (l1++x::l2) s=some (s',ps)->
 ∃ s1 p1 p2,zJ P env envR nt ops rs x ox s=some (s1,p1)/\yn P env envR nt ops rs (l1++l2) s1=some (s',p2)/\(All p1/\All p2)
 | [],l2,s,s',ps,_,_,hps,h=>by
  simp only[List.nil_append,yn,hx]at h ⊢
  cases h1:zJ P env envR nt ops rs x ox s with
  | none=>rw[h1]at h;cases h
  | some q=>
   obtain⟨s1,p1⟩:=q
   rw[h1]at h
   dsimp only at h
   cases h2:yn P env envR nt ops rs l2 s1 with
   | none=>rw[h2]at h;cases h
   | some q=>
    obtain⟨s2,p2⟩:=q
    rw[h2]at h;cases h
    exact⟨s1,p1,p2,rfl,h2,All.append hps⟩
 | y::l1,l2,s,s',ps,hi,hsem,hps,h=>by
  simp only[List.cons_append,yn]at h
  cases hy:ops[y]? with
  | none=>rw[hy]at h;cases h
  | some oy=>
   rw[hy]at h
   dsimp only at h
   cases h1:zJ P env envR nt ops rs y oy s with
   | none=>rw[h1]at h;cases h
   | some q=>
    obtain⟨s1,p1⟩:=q
    rw[h1]at h
    dsimp only at h
    cases h2:yn P env envR nt ops rs (l1++x::l2) s1 with
    | none=>rw[h2]at h;cases h
    | some q=>
     obtain⟨s2,p2⟩:=q
     rw[h2]at h;cases h
     obtain⟨u1,u2⟩:=All.append hps
     have hind:=hi y (List.mem_cons_self ..) oy hy
     have hsem1:=zbE.stepW hind h1 hsem
     obtain⟨t1,q1,q2,b1,b2,b3,b4⟩:=zD2 hx l1 l2 s1 s' p2 (fun y' hy'=>hi y' (List.mem_cons_of_mem _ hy')) hsem1 u2 h2
     obtain⟨t0,c1,c2⟩:=zIa hind hsem h1 b1 b3
     refine⟨t0,q1,p1++q2,c1,?_,b3,All.mk u1 b4⟩
     simp only[List.cons_append,yn,hy,c2,b2]
theorem zGT{env:Env}(henv:zau P env){envR:zbd}(henvR:zaR P envR){rs:List Nat}{ops:Array Oper}(hk:zjK ops rs=true){Q:Exit->Act->World->Prop}{s':S}
 (hq:∀ a' w',St C s' a' w'->Q .normal a' w'):∀ (fuel:Nat) (listed:Array Bool) (l:List Nat) (s:S) (ps:List Prop) (a:Act) (w:World),
 listed.size=ops.size->(∀ i,i ∈ l↔i<ops.size/\listed.getD i true=false)->l.Pairwise (·<·)->zdK ops (lsF listed)->l.length<=fuel->
 yn P env envR C.nt ops rs l s=some (s',ps)->All ps->St C s a w->(∀ (x:Nat) (o:Oper),ops[x]?=some o->∀ e ∈ o.after,Region.binds .any e=true->e.on<x)->wpAnyIn (FW C.rd) 0 P .any ops Q fuel listed a w:=by
 intro fuel
 induction fuel with
 | zero=>
  intro listed l s ps a w hsz hl hsort hcl hle h hps hs hbk
  have:l=[]:=List.length_eq_zero_iff.1 (Nat.le_zero.1 hle)
  subst this
  cases h
  refine⟨?_,hq a w hs⟩
  refine List.eq_nil_iff_forall_not_mem.2 fun j hj=>?_
  obtain⟨h0,o,ho,_⟩:=mem_ready.1 hj
  exact absurd ((hl j).2 ⟨(Array.getElem?_eq_some_iff.1 ho).1,h0⟩) (by simp)
 | succ fuel ih=>
  intro listed l s ps a w hsz hl hsort hcl hle h hps hs hbk
  refine⟨fun hr=>?_,fun x hx=>?_⟩
  .cases l with
   | nil=>cases h;exact hq a w hs
   | cons x r=>
    exfalso
    have hxm:=(hl x).1 (List.mem_cons_self ..)
    have hox:ops[x]?=some ops[x]:=Array.getElem?_eq_getElem hxm.1
    have:x ∈ Region.ready .any ops listed:=by
     refine mem_ready.2 ⟨hxm.2,_,hox,fun e he hbi=>?_⟩
     have hlt:=hbk x _ hox e he hbi
     cases hle':listed.getD e.on false with
     | true=>rfl
     | false=>
      exfalso
      have he2:e.on<ops.size:=Nat.lt_trans hlt hxm.1
      have hmem:e.on ∈ x::r:=by
       refine(hl e.on).2 ⟨he2,?_⟩
       have hlt3:e.on<listed.size:=by rw[hsz];exact he2
       simpa[Array.getD,hlt3]using hle'
      rcases List.mem_cons.1 hmem with h3|h3
      .omega
      .have:=List.rel_of_pairwise_cons hsort h3
       omega
    rw[hr]at this;cases this
  .obtain ⟨h0,ox,hox,hall⟩:=mem_ready.1 hx
   have hlt:=(Array.getElem?_eq_some_iff.1 hox).1
   obtain⟨l1,l2,rfl,hl1⟩:=zhX hsort ((hl x).2 ⟨hlt,h0⟩)
   have hind:∀ y ∈ l1,∀ oy,ops[y]?=some oy->zep ops rs y x oy ox=true:=fun y hy oy hoy=>by
    refine zu1 hk (hl1 y hy) hox hoy hcl ?_ ?_
    .intro o ho e he hb
     rw[hox]at ho;cases ho
     exact hall e he hb
    .have:=((hl y).1 (List.mem_append_left _ hy)).2
     have hy2:y<listed.size:=by rw[hsz];exact((hl y).1 (List.mem_append_left _ hy)).1
     simp only[lsF]
     simpa[Array.getD,hy2]using this
   obtain⟨s1,p1,p2,b1,b2,hp1,hp2⟩:=zD2 hox l1 l2 s s' ps hind (hs.sem ox) hps h
   have step:=zbN henv henvR b1 hp1 hs (next:=wpAnyIn (FW C.rd) 0 P .any ops Q fuel (listed.setIfInBounds x true)) (Q:=Q) fun a' w' hs'=>by
    have hpw:=List.pairwise_append.1 hsort
    refine ih (listed.setIfInBounds x true) (l1++l2) s1 p2 a' w' (by simpa using hsz) (fun i=>?_) ?_ ?_ ?_ b2 hp2 hs' hbk
    .have hi:=hl i
     by_cases hix:x=i
     .subst hix
      have hxs:x<listed.size:=by rw[hsz];exact hlt
      constructor
      .intro hm
       exfalso
       rcases List.mem_append.1 hm with hm|hm
       .exact absurd (hl1 x hm) (by omega)
       .have:=List.rel_of_pairwise_cons hpw.2.1 hm
        omega
      .rintro ⟨_,hh⟩
       simp[hxs]at hh
     .rw [getD_set_ne true hix,<-hi]
      simp only[List.mem_append,List.mem_cons]
      constructor
      .rintro (h|h)
       .exact .inl h
       .exact .inr (.inr h)
      .rintro (h|h|h)
       .exact .inl h
       .exact absurd h.symm hix
       .exact .inr h
    .exact List.Pairwise.sublist (List.Sublist.append (List.Sublist.refl _) (List.sublist_cons_self ..)) hsort
    .intro y hy o ho e he hb
     simp only[lsF]at hy ⊢
     by_cases hyx:x=y
     .subst hyx
      rw[hox]at ho;cases ho
      exact getD_set_true (hall e he hb)
     .rw [getD_set_ne false hyx]at hy
      exact getD_set_true (hcl y hy o ho e he hb)
    .simp only[List.length_append,List.length_cons]at hle ⊢
     omega
   unfold wpOpIn
   rw[hox]
   dsimp only
   split
   .rename_i hw;rw[if_pos hw]at step;exact step
   .rename_i hw;rw[if_neg hw]at step;exact⟨fun _ _=>trivial,step⟩
def zhl(ops:Array Oper):Bool:=(List.range ops.size).all fun x=>match ops[x]? with
 | some o=>o.after.all fun e=>!Region.binds .any e||Nat.blt e.on x
 | none=>true
theorem zfv{ops:Array Oper}(h:zhl ops=true):∀ (x:Nat) (o:Oper),ops[x]?=some o->∀ e ∈ o.after,Region.binds .any e=true->e.on<x:=by
 intro x o ho e he hb
 have h1:=List.all_eq_true.1 h x (List.mem_range.2 (Array.getElem?_eq_some_iff.1 ho).1)
 rw[ho]at h1
 have:=Array.all_eq_true_iff_forall_mem.1 h1 e he
 rw[hb]at this
 simpa[Nat.blt_eq]using this
theorem zBn{env:Env}(henv:zau P env){envR:zbd}(henvR:zaR P envR){rs:List Nat}(hm:P.follows .mixedOrders=true){id:Nat}{ops:Array Oper}{Q:Exit->S->Prop}{ps:List Prop}
 (hk:zjK ops rs=true) (hb:zhl ops=true)
 (h:yn P env envR C.nt ops rs (List.range ops.size) s=some (s',ps)) (hp:All ps) (hq:Q .normal s'):T P C (.region id ops true) s Q:=by
 intro a w hs
 refine wpIn_region_any hm ?_
 refine zGT henv henvR hk (fun a' w' hs'=>⟨s',hq,hs'⟩) ops.size _ (List.range ops.size) s ps a _ (by simp) (fun i=>?_) List.pairwise_lt_range ?_ (by simp) h hp hs.drew (zfv hb)
 .simp only[List.mem_range]
  constructor
  .intro hi;exact⟨hi,by simp[hi]⟩
  .exact fun h=>h.1
 .intro x hx
  exfalso
  simp only[lsF]at hx
  rw[Array.getD_eq_getD_getElem?,Array.getElem?_replicate]at hx
  split at hx <;> simp at hx
end Go.Am
/-! From a contract to a row. -/
namespace Go.Am
open Go Go.RowKit Go.ChangeShapes Go.WideShapes Go.ChangeAt
theorem zSd{k:IntKind}{n:Int}(h:(Lit.int k n).wf=true):k.has n:=by
 simp only[Lit.wf,Bool.and_eq_true,decide_eq_true_eq]at h
 exact h
variable {H:Type}{enc:TypeId×Value->H}{P:Program}
theorem zrz{f:Func}{s:ChangeSpec}{apart fresh handsOn again:Bool}{W W':World}{args:Array Value}{v:Value}{ds gs:List (DataW H)}{before pa pv:List MemPlace}
 (hW:DataW.Whole enc P f.params.toList s.vars apart W args.toList ds gs before)
 (hres:∀ (b:Nat) (sp:Nat->Bool) (hd:Bool),DataW.TrodAll enc P W' b sp hd f.resultTypes.toList (v.resultList f.resultTypes.size) (s.fn H (ds++gs)).results [])
 (hargs:∀ sp:Nat->Bool,(∀ p ∈ before,sp p.block=true)->DataW.TrodAll enc P W' 0 sp true f.params.toList args.toList (s.fn H (ds++gs)).args pa)
 (hvars:∀ sp:Nat->Bool,(∀ p ∈ before,sp p.block=true)->DataW.TrodVars enc P W' sp s.vars (s.fn H (ds++gs)).vars pv)
 (hps:before=pa++pv) (hb:Below W.heap.size W W')
 (hok:∀ (j:Nat) (t:TypeId) (r:Value),f.resultTypes[j]?=some t->(v.resultList f.resultTypes.size)[j]?=some r->Value.okWide P W' .any 0 t r):
 s.post enc P f apart fresh handsOn again W args v W':=by
 have hlt:∀ p ∈ before,p.block<W.heap.size:=hW.lt
 have hold:∀ p ∈ before,(fun b=>decide (b<W.heap.size)) p.block=true:=fun p hp=>by simpa using hlt p hp
 refine⟨ds,gs,before,[],pa,pv,hW,hres _ _ _,hargs _ hold,hvars _ hold,hb.frame _,fun _=>?_⟩
 obtain⟨_,_,_,_,_,hz,hn⟩:=hW
 refine⟨hok,_,_,([]++pa)++pv,⟨[]++pa,pv,trodAll_append (hargs _ (fun _ _=>rfl)) (hres _ _ _),hvars _ (fun _ _=>rfl),rfl,?_,?_⟩,?_⟩
 .intro b off hp
  have hp':MemPlace.cell b off ∈ before:=by rw[hps];simpa using hp
  rw[hb.frozen (p:=⟨b,off,none⟩) (hlt _ hp')]
  exact hz b off hp'
 .intro ha
  have:=hn ha
  rw[hps]at this
  simpa using this
 .intro p hp _
  rw[hps]
  simpa using hp
end Go.Am
/-! Numbers: wrapping and bits of numbers that are not negative. -/
namespace Go.Am
open Go
theorem zde{n:Int}(h0:0<=n)(h1:n<9223372036854775808):IntKind.i64.wrap n=n:=by
 have e:(2:Int)^IntKind.i64.bits=18446744073709551616:=rfl
 have e1:(2:Int)^(IntKind.i64.bits-1)=9223372036854775808:=rfl
 have e2:IntKind.i64.signed=true:=rfl
 simp only[IntKind.wrap,e,e1,e2,Bool.true_and,decide_eq_true_eq]
 split <;> omega
theorem zDa(n:Int):IntKind.u8.wrap n=n % 256:=by
 have e:(2:Int)^IntKind.u8.bits=256:=rfl
 have e2:IntKind.u8.signed=false:=rfl
 simp only[IntKind.wrap,e,e2,Bool.false_and,Bool.false_eq_true,if_false]
theorem zuJ{a b:Nat}(ha:a<9223372036854775808)(hb:b<9223372036854775808):zO .and .i64 (a:Int) (b:Int)=((a&&& b:Nat):Int):=by
 have h1:(BitVec.ofInt IntKind.i64.bits (a:Int)&&& BitVec.ofInt IntKind.i64.bits (b:Int)).toNat=a&&& b:=by
  rw[BitVec.toNat_and,BitVec.ofInt_natCast,BitVec.ofInt_natCast,BitVec.toNat_ofNat,BitVec.toNat_ofNat]
  have e:2^IntKind.i64.bits=18446744073709551616:=rfl
  rw[e,Nat.mod_eq_of_lt (by omega),Nat.mod_eq_of_lt (by omega)]
 show IntKind.i64.wrap (((BitVec.ofInt IntKind.i64.bits (a:Int)&&& BitVec.ofInt IntKind.i64.bits (b:Int)).toNat:Nat):Int)=_
 rw[h1]
 have:a&&& b<=a:=Nat.and_le_left
 exact zde (by omega) (by omega)
theorem zpG{a b:Nat}(ha:a<9223372036854775808)(hb:b<9223372036854775808):zO .or .i64 (a:Int) (b:Int)=((a||| b:Nat):Int):=by
 have h1:(BitVec.ofInt IntKind.i64.bits (a:Int)||| BitVec.ofInt IntKind.i64.bits (b:Int)).toNat=a||| b:=by
  rw[BitVec.toNat_or,BitVec.ofInt_natCast,BitVec.ofInt_natCast,BitVec.toNat_ofNat,BitVec.toNat_ofNat]
  have e:2^IntKind.i64.bits=18446744073709551616:=rfl
  rw[e,Nat.mod_eq_of_lt (by omega),Nat.mod_eq_of_lt (by omega)]
 show IntKind.i64.wrap (((BitVec.ofInt IntKind.i64.bits (a:Int)||| BitVec.ofInt IntKind.i64.bits (b:Int)).toNat:Nat):Int)=_
 rw[h1]
 have:a||| b<2^63:=Nat.or_lt_two_pow (by omega) (by omega)
 exact zde (by omega) (by omega)
theorem zpj(a b k:Nat)(hb:b<2^k):(a*2^k)||| b=a*2^k+b:=by
 rw[Nat.mul_comm,Nat.two_pow_add_eq_or_of_lt hb]
theorem zve(a k:Nat):a&&& (2^k-1)=a % 2^k:=Nat.and_two_pow_sub_one_eq_mod a k
end Go.Am
/-! Drawn regions in which one pair of operations is neither ordered nor independent: both orders are run. -/
namespace Go.Am
open Go Go.RowKit
variable {P:Program}{C:Ctx}{s s':S}{a a':Act}{w w':World}
theorem zPC{envR:zbd}{nt:Nat}{o:Oper}{xs:List AV}{ok:Option Prop}(h:evR envR nt o s xs=some (s',ok)):
 ∃ hv:AV,s'.sl=yo s.sl o.dst hv/\∀ σ,evR envR nt o { s with sl:=σ } xs=some ({ s' with sl:=yo σ o.dst hv },ok):=by
 unfold evR at h
 split at h
 .split at h
  .split at h
   .try dsimp only at h
    split at h
    .split at h
     .try dsimp only at h
      split at h
      .cases h
       refine⟨_,rfl,fun σ=>?_⟩
       unfold evR
       simp only[*]
      .cases h
     .cases h
    .cases h
   .cases h
  .cases h
 .cases h
def zK3:Op->Bool
 | .call ⟨.value _,_,_⟩=>true
 | _=>false
theorem zmL{env:Env}{envR:zbd}{nt:Nat}{ops:Array Oper}{rs:List Nat}{i:Nat}{o:Oper}(hi:zaa i rs=true)(hg:o.guard=none)(hc:zK3 o.op=true)(s:S):
 zJ P env envR nt ops rs i o s=(evR envR nt o s (o.op.operands.toList.map (aev s.sl))).map fun r=>(r.1,oks none r.2):=by
 unfold zJ
 rw[hi]
 dsimp only
 rw[hg]
 dsimp only
 cases hop:o.op <;> rw[hop]at hc <;> first|cases hc|rfl
def zuH(ops:Array Oper)(rs:List Nat)(y x:Nat)(oy ox:Oper):Bool:=
 !zaa y rs&&zaa x rs&&zK3 ox.op&&ox.guard.isNone&&Oper.apart ops oy ox&&zcJ oy.op
theorem zTp{env:Env}{envR:zbd}{rs:List Nat}{nt:Nat}{ops:Array Oper}{x y:Nat}{ox oy:Oper}{s s1 s2:S}{p1 p2:List Prop}(hi:zuH ops rs y x oy ox=true)
 (h1:zJ P env envR nt ops rs y oy s=some (s1,p1)) (h2:zJ P env envR nt ops rs x ox s1=some (s2,p2)):
 ∃ s1',zJ P env envR nt ops rs x ox s=some (s1',p2)/\zJ P env envR nt ops rs y oy s1'=some (s2,p1):=by
 unfold zuH at hi
 simp only[Bool.and_eq_true,Bool.not_eq_true',Option.isNone_iff_eq_none]at hi
 obtain⟨⟨⟨⟨⟨hy,hx⟩,hc⟩,hg⟩,hap⟩,hp⟩:=hi
 obtain⟨a1,a2,a3⟩:=zaz hap
 have ey:zax oy.op=false:=by cases hop:oy.op <;> rw[hop]at hp <;> first|rfl|(simp only[zcJ,reduceCtorEq]at hp)
 have hyA:∀ s,zJ P env envR nt ops rs y oy s=yx P env nt ops oy s:=fun s=>by unfold zJ;rw[hy]
 rw[hyA,yh ey]at h1
 obtain⟨ry,hry,he⟩:=map_some h1
 cases he
 rw[zmL hx hg hc]at h2
 obtain⟨⟨s2',ok⟩,hE,he⟩:=map_some h2
 cases he
 obtain⟨hv,e1,e2⟩:=zPC hE
 have hargs:ox.op.operands.toList.map (aev (yo s.sl oy.dst ry.v))=ox.op.operands.toList.map (aev s.sl):=yQ a1 s.sl ry.v
 have hE':=e2 s.sl
 have e0:({ zcM s oy.dst ry.v with sl:=s.sl }:S)=s:=rfl
 rw[e0]at hE'
 have hargs2:ox.op.operands.toList.map (aev (zcM s oy.dst ry.v).sl)=ox.op.operands.toList.map (aev s.sl):=hargs
 rw[hargs2]at hE'
 refine⟨{ s2' with sl:=yo s.sl ox.dst hv },by rw[zmL hx hg hc,hE'];rfl,?_⟩
 rw[hyA,yh ey]
 have:yN P env nt ops oy (yo s.sl ox.dst hv) s2'.ob=some ry:=by
  rw[zbq (P:=P) a3,zio (ob':=s.ob) hp];exact hry
 show(yN P env nt ops oy (yo s.sl ox.dst hv) s2'.ob).map _=_
 rw[this]
 simp only[Option.map_some,zcM]
 have e4:yo (yo s.sl ox.dst hv) oy.dst ry.v=s2'.sl:=by
  rw[e1]
  show _=yo (yo s.sl oy.dst ry.v) ox.dst hv
  rw[zbw hv ry.v (fun d hd e=>a2 d e hd)]
 rw[e4]
def zgj(ops:Array Oper)(rs:List Nat)(y x:Nat)(oy ox:Oper):Bool:=zep ops rs y x oy ox||zuH ops rs y x oy ox
theorem zTl{env:Env}{envR:zbd}{rs:List Nat}{nt:Nat}{ops:Array Oper}{x y:Nat}{ox oy:Oper}{s s1 s2:S}{p1 p2:List Prop}(hi:zgj ops rs y x oy ox=true)(hsem:zbE s ox)
 (h1:zJ P env envR nt ops rs y oy s=some (s1,p1)) (h2:zJ P env envR nt ops rs x ox s1=some (s2,p2)) (hp:All p2):
 ∃ s1',zJ P env envR nt ops rs x ox s=some (s1',p2)/\zJ P env envR nt ops rs y oy s1'=some (s2,p1):=by
 unfold zgj at hi
 rw[Bool.or_eq_true]at hi
 rcases hi with hi|hi
 .exact zIa hi hsem h1 h2 hp
 .exact zTp hi h1 h2
theorem zbE.stepX{env:Env}{envR:zbd}{rs:List Nat}{nt:Nat}{ops:Array Oper}{x y:Nat}{ox oy:Oper}{s s1:S}{p1:List Prop}(hi:zgj ops rs y x oy ox=true)
 (h1:zJ P env envR nt ops rs y oy s=some (s1,p1)) (hsem:zbE s ox):zbE s1 ox:=by
 unfold zgj at hi
 rw[Bool.or_eq_true]at hi
 rcases hi with hi|hi
 .exact zbE.stepW hi h1 hsem
 .unfold zuH at hi
  simp only[Bool.and_eq_true,Bool.not_eq_true']at hi
  unfold zJ at h1
  rw[hi.1.1.1.1.1]at h1
  exact zbE.step hi.1.2 h1 hsem
theorem zva{env:Env}{envR:zbd}{rs:List Nat}{nt:Nat}{ops:Array Oper}{x:Nat}{ox:Oper}(hx:ops[x]?=some ox):∀ (l1 l2:List Nat) (s s':S) (ps:List Prop),
 (∀ y ∈ l1,∀ oy,ops[y]?=some oy->zgj ops rs y x oy ox=true)->zbE s ox->All ps->yn P env envR nt ops rs (l1++x::l2) s=some (s',ps)->
 ∃ s1 p1 p2,zJ P env envR nt ops rs x ox s=some (s1,p1)/\yn P env envR nt ops rs (l1++l2) s1=some (s',p2)/\(All p1/\All p2)
 | [],l2,s,s',ps,_,_,hps,h=>by
  simp only[List.nil_append,yn,hx]at h ⊢
  cases h1:zJ P env envR nt ops rs x ox s with
  | none=>rw[h1]at h;cases h
  | some q=>
   obtain⟨s1,p1⟩:=q
   rw[h1]at h
   dsimp only at h
   cases h2:yn P env envR nt ops rs l2 s1 with
   | none=>rw[h2]at h;cases h
   | some q=>
    obtain⟨s2,p2⟩:=q
    rw[h2]at h;cases h
    exact⟨s1,p1,p2,rfl,h2,All.append hps⟩
 | y::l1,l2,s,s',ps,hi,hsem,hps,h=>by
  simp only[List.cons_append,yn]at h
  cases hy:ops[y]? with
  | none=>rw[hy]at h;cases h
  | some oy=>
   rw[hy]at h
   dsimp only at h
   cases h1:zJ P env envR nt ops rs y oy s with
   | none=>rw[h1]at h;cases h
   | some q=>
    obtain⟨s1,p1⟩:=q
    rw[h1]at h
    dsimp only at h
    cases h2:yn P env envR nt ops rs (l1++x::l2) s1 with
    | none=>rw[h2]at h;cases h
    | some q=>
     obtain⟨s2,p2⟩:=q
     rw[h2]at h;cases h
     obtain⟨u1,u2⟩:=All.append hps
     have hind:=hi y (List.mem_cons_self ..) oy hy
     have hsem1:=zbE.stepX hind h1 hsem
     obtain⟨t1,q1,q2,b1,b2,b3,b4⟩:=zva hx l1 l2 s1 s' p2 (fun y' hy'=>hi y' (List.mem_cons_of_mem _ hy')) hsem1 u2 h2
     obtain⟨t0,c1,c2⟩:=zTl hind hsem h1 b1 b3
     refine⟨t0,q1,p1++q2,c1,?_,b3,All.mk u1 b4⟩
     simp only[List.cons_append,yn,hy,c2,b2]
def zIG(ops:Array Oper)(rs:List Nat)(y x:Nat):Bool:=
 ((zmz ops.toList []).getD x 0).testBit y||(match ops[y]?,ops[x]? with
  | some oy,some ox=>zgj ops rs y x oy ox
  | _,_=>false)
def zAD(ops:Array Oper)(y x:Nat):Bool:=
 match ops[y]? with
 | some o=>o.after.all fun e=>!Region.binds .any e||!Nat.beq e.on x
 | none=>true
def zeF(f:Nat->Nat->Bool):List Nat->Bool
 | []=>true
 | y::r=>r.all (f y)&&zeF f r
theorem zdu{f:Nat->Nat->Bool}:∀ {l:List Nat},zeF f l=true->l.Pairwise fun y x=>f y x=true
 | [],_=>.nil
 | y::r,h=>by
  simp only[zeF,Bool.and_eq_true]at h
  exact .cons (fun x hx=>List.all_eq_true.1 h.1 x hx) (zdu h.2)
abbrev zvm(ops:Array Oper)(listed:Array Bool)(l:List Nat):Prop:=∀ i,i ∈ l↔i<ops.size/\listed.getD i true=false
theorem zgf{ops:Array Oper}{listed:Array Bool}{l1 l2:List Nat}{x:Nat}(hsz:listed.size=ops.size)(hlt:x<ops.size)(hl:zvm ops listed (l1++x::l2))(hnd:(l1++x::l2).Nodup):zvm ops (listed.setIfInBounds x true) (l1++l2):=by
 intro i
 have hi:=hl i
 by_cases hix:x=i
 .subst hix
  have hxs:x<listed.size:=by rw[hsz];exact hlt
  constructor
  .intro hm
   exfalso
   rw[List.nodup_append]at hnd
   rcases List.mem_append.1 hm with hm|hm
   .exact hnd.2.2 x hm x (List.mem_cons_self ..) rfl
   .exact (List.nodup_cons.1 hnd.2.1).1 hm
  .rintro ⟨_,hh⟩
   simp[hxs]at hh
 .rw [getD_set_ne true hix,<-hi]
  simp only[List.mem_append,List.mem_cons]
  constructor
  .rintro (h|h)
   .exact .inl h
   .exact .inr (.inr h)
  .rintro (h|h|h)
   .exact .inl h
   .exact absurd h.symm hix
   .exact .inr h
theorem zfs{ops:Array Oper}{listed:Array Bool}{x:Nat}{ox:Oper}(hox:ops[x]?=some ox)(hcl:zdK ops (lsF listed))(hall:∀ e ∈ ox.after,Region.binds .any e=true->listed.getD e.on false=true):zdK ops (lsF (listed.setIfInBounds x true)):=by
 intro y hy o ho e he hb
 simp only[lsF]at hy ⊢
 by_cases hyx:x=y
 .subst hyx
  rw[hox]at ho;cases ho
  exact getD_set_true (hall e he hb)
 .rw [getD_set_ne false hyx]at hy
  exact getD_set_true (hcl y hy o ho e he hb)
theorem zsE{ops:Array Oper}{rs:List Nat}{listed:Array Bool}{x y:Nat}{ox oy:Oper}(hsz:listed.size=ops.size)(h:zIG ops rs y x=true)(hox:ops[x]?=some ox)(hoy:ops[y]?=some oy)
 (hcl:zdK ops (lsF listed)) (hall:∀ e ∈ ox.after,Region.binds .any e=true->listed.getD e.on false=true) (hny:y<ops.size/\listed.getD y true=false):zgj ops rs y x oy ox=true:=by
 unfold zIG at h
 rw[hox,hoy,Bool.or_eq_true]at h
 rcases h with h|h
 .exfalso
  cases hm:(zmz ops.toList [])[x]? with
  | none=>rw[List.getD_eq_getElem?_getD,hm]at h;simp at h
  | some m=>
   rw[List.getD_eq_getElem?_getD,hm]at h
   have:=zjr (ops:=ops) ops.toList [] (fun i o ho=>by simpa using ho) (fun x m hx=>by simp at hx) x m hm (lsF listed) hcl (fun o ho e he hb=>by rw[hox]at ho;cases ho;exact hall e he hb) y h
   simp only[lsF]at this
   have hy2:y<listed.size:=by rw[hsz];exact hny.1
   have h2:=hny.2
   simp only[Array.getD,hy2,dif_pos]at this h2
   rw[this]at h2;cases h2
 .exact h
theorem zpI{ops:Array Oper}{listed:Array Bool}{x:Nat}{r:List Nat}(hsz:listed.size=ops.size)(hl:zvm ops listed (x::r))(hb:∀ z ∈ r,zAD ops x z=true)
 (hbk:∀ (x:Nat) (o:Oper),ops[x]?=some o->∀ e ∈ o.after,Region.binds .any e=true->e.on<x):x ∈ Region.ready .any ops listed:=by
 have hxm:=(hl x).1 (List.mem_cons_self ..)
 have hox:ops[x]?=some ops[x]:=Array.getElem?_eq_getElem hxm.1
 refine mem_ready.2 ⟨hxm.2,_,hox,fun e he hbi=>?_⟩
 have hlt:=hbk x _ hox e he hbi
 cases hle':listed.getD e.on false with
 | true=>rfl
 | false=>
  exfalso
  have he2:e.on<ops.size:=Nat.lt_trans hlt hxm.1
  have hmem:e.on ∈ x::r:=by
   refine(hl e.on).2 ⟨he2,?_⟩
   have hlt3:e.on<listed.size:=by rw[hsz];exact he2
   simpa[Array.getD,hlt3]using hle'
  rcases List.mem_cons.1 hmem with h3|h3
  .omega
  .have h4:=hb _ h3
   unfold zAD at h4
   rw[hox]at h4
   have h5:=Array.all_eq_true_iff_forall_mem.1 h4 e he
   rw[hbi]at h5
   simp at h5
abbrev okX(ops:Array Oper)(rs:List Nat)(ex:Nat->Nat->Bool)(y x:Nat):Bool:=(zIG ops rs y x||ex y x)&&zAD ops y x
theorem ztd{env:Env}(henv:zau P env){envR:zbd}(henvR:zaR P envR){rs:List Nat}{ops:Array Oper}{Q:Exit->Act->World->Prop}{s':S}
 (hq:∀ a' w',St C s' a' w'->Q .normal a' w') (hbk:∀ (x:Nat) (o:Oper),ops[x]?=some o->∀ e ∈ o.after,Region.binds .any e=true->e.on<x):∀ (fuel:Nat) (listed:Array Bool) (l:List Nat) (s:S) (ps:List Prop) (a:Act) (w:World),
 listed.size=ops.size->zvm ops listed l->l.Nodup->l.Pairwise (fun y x=>okX ops rs (fun _ _=>false) y x=true)->zdK ops (lsF listed)->l.length<=fuel->
 yn P env envR C.nt ops rs l s=some (s',ps)->All ps->St C s a w->wpAnyIn (FW C.rd) 0 P .any ops Q fuel listed a w:=by
 intro fuel
 induction fuel with
 | zero=>
  intro listed l s ps a w hsz hl hnd hpw hcl hle h hps hs
  have:l=[]:=List.length_eq_zero_iff.1 (Nat.le_zero.1 hle)
  subst this
  cases h
  refine⟨?_,hq a w hs⟩
  refine List.eq_nil_iff_forall_not_mem.2 fun j hj=>?_
  obtain⟨h0,o,ho,_⟩:=mem_ready.1 hj
  exact absurd ((hl j).2 ⟨(Array.getElem?_eq_some_iff.1 ho).1,h0⟩) (by simp)
 | succ fuel ih=>
  intro listed l s ps a w hsz hl hnd hpw hcl hle h hps hs
  refine⟨fun hr=>?_,fun x hx=>?_⟩
  .cases l with
   | nil=>cases h;exact hq a w hs
   | cons x r=>
    exfalso
    have:x ∈ Region.ready .any ops listed:=zpI hsz hl (fun z hz=>by
     have:=List.rel_of_pairwise_cons hpw hz
     unfold okX at this
     rw[Bool.and_eq_true]at this;exact this.2) hbk
    rw[hr]at this;cases this
  .obtain ⟨h0,ox,hox,hall⟩:=mem_ready.1 hx
   have hlt:=(Array.getElem?_eq_some_iff.1 hox).1
   obtain⟨l1,l2,rfl⟩:=List.append_of_mem ((hl x).2 ⟨hlt,h0⟩)
   have hpp:=List.pairwise_append.1 hpw
   have hind:∀ y ∈ l1,∀ oy,ops[y]?=some oy->zgj ops rs y x oy ox=true:=fun y hy oy hoy=>by
    have h1:=hpp.2.2 y hy x (List.mem_cons_self ..)
    unfold okX at h1
    simp only[Bool.or_false,Bool.and_eq_true]at h1
    exact zsE hsz h1.1 hox hoy hcl hall ((hl y).1 (List.mem_append_left _ hy))
   obtain⟨s1,p1,p2,b1,b2,hp1,hp2⟩:=zva hox l1 l2 s s' ps hind (hs.sem ox) hps h
   have step:=zbN henv henvR b1 hp1 hs (next:=wpAnyIn (FW C.rd) 0 P .any ops Q fuel (listed.setIfInBounds x true)) (Q:=Q) fun a' w' hs'=>
    ih (listed.setIfInBounds x true) (l1++l2) s1 p2 a' w' (by simpa using hsz) (zgf hsz hlt hl hnd) (hnd.sublist (List.Sublist.append (List.Sublist.refl _) (List.sublist_cons_self ..)))
     (List.Pairwise.sublist (List.Sublist.append (List.Sublist.refl _) (List.sublist_cons_self ..)) hpw) (zfs hox hcl hall) (by simp only[List.length_append,List.length_cons]at hle ⊢;omega) b2 hp2 hs'
   unfold wpOpIn
   rw[hox]
   dsimp only
   split
   .rename_i hw;rw[if_pos hw]at step;exact step
   .rename_i hw;rw[if_neg hw]at step;exact⟨fun _ _=>trivial,step⟩
def exP(p q y x:Nat):Bool:=Nat.beq y p&&Nat.beq x q
theorem zGV{env:Env}(henv:zau P env){envR:zbd}(henvR:zaR P envR){rs:List Nat}{ops:Array Oper}{Q:Exit->Act->World->Prop}{sA sB:S}{p q:Nat}(hne:p≠q)
 (hqA:∀ a' w',St C sA a' w'->Q .normal a' w') (hqB:∀ a' w',St C sB a' w'->Q .normal a' w') (hbk:∀ (x:Nat) (o:Oper),ops[x]?=some o->∀ e ∈ o.after,Region.binds .any e=true->e.on<x):
 ∀ (fuel:Nat) (listed:Array Bool) (lA lB:List Nat) (s:S) (psA psB:List Prop) (a:Act) (w:World),
 listed.size=ops.size->zvm ops listed lA->zvm ops listed lB->lA.Nodup->lB.Nodup->lA.Pairwise (fun y x=>okX ops rs (exP p q) y x=true)->lB.Pairwise (fun y x=>okX ops rs (exP q p) y x=true)->
 zdK ops (lsF listed)->lA.length<=fuel->lB.length<=fuel->
 yn P env envR C.nt ops rs lA s=some (sA,psA)->yn P env envR C.nt ops rs lB s=some (sB,psB)->All psA->All psB->St C s a w->wpAnyIn (FW C.rd) 0 P .any ops Q fuel listed a w:=by
 intro fuel
 induction fuel with
 | zero=>
  intro listed lA lB s psA psB a w hsz hlA hlB hnA hnB hpA hpB hcl hleA hleB hA hB hpsA hpsB hs
  have:lA=[]:=List.length_eq_zero_iff.1 (Nat.le_zero.1 hleA)
  subst this
  cases hA
  refine⟨?_,hqA a w hs⟩
  refine List.eq_nil_iff_forall_not_mem.2 fun j hj=>?_
  obtain⟨h0,o,ho,_⟩:=mem_ready.1 hj
  exact absurd ((hlA j).2 ⟨(Array.getElem?_eq_some_iff.1 ho).1,h0⟩) (by simp)
 | succ fuel ih=>
  intro listed lA lB s psA psB a w hsz hlA hlB hnA hnB hpA hpB hcl hleA hleB hA hB hpsA hpsB hs
  have split2:∀ {l:List Nat} {x:Nat},zvm ops listed l->x<ops.size/\listed.getD x true=false->∃ l1 l2,l=l1++x::l2:=fun hl h=>List.append_of_mem ((hl _).2 h)
  refine⟨fun hr=>?_,fun x hx=>?_⟩
  .cases lA with
   | nil=>cases hA;exact hqA a w hs
   | cons x r=>
    exfalso
    have:x ∈ Region.ready .any ops listed:=zpI hsz hlA (fun z hz=>by
     have:=List.rel_of_pairwise_cons hpA hz
     unfold okX at this
     rw[Bool.and_eq_true]at this;exact this.2) hbk
    rw[hr]at this;cases this
  .obtain ⟨h0,ox,hox,hall⟩:=mem_ready.1 hx
   have hlt:=(Array.getElem?_eq_some_iff.1 hox).1
   have go:∀ {l1 l2:List Nat} {sE:S} {psE:List Prop} {u v:Nat},zvm ops listed (l1++x::l2)->(l1++x::l2).Pairwise (fun y x=>okX ops rs (exP u v) y x=true)->x≠v->yn P env envR C.nt ops rs (l1++x::l2) s=some (sE,psE)->All psE->
    ∃ s1 p1 p2,zJ P env envR C.nt ops rs x ox s=some (s1,p1)/\yn P env envR C.nt ops rs (l1++l2) s1=some (sE,p2)/\(All p1/\All p2):=by
    intro l1 l2 sE psE u v hl hpw hxv h hps
    have hpp:=List.pairwise_append.1 hpw
    refine zva hox l1 l2 s sE psE (fun y hy oy hoy=>?_) (hs.sem ox) hps h
    have h1:=hpp.2.2 y hy x (List.mem_cons_self ..)
    unfold okX exP at h1
    rw[Bool.and_eq_true,Bool.or_eq_true]at h1
    rcases h1.1 with h1|h1
    .exact zsE hsz h1 hox hoy hcl hall ((hl y).1 (List.mem_append_left _ hy))
    .rw [Bool.and_eq_true]at h1
     exact absurd (Nat.eq_of_beq_eq_true h1.2) hxv
   have fin:∀ {s1:S} {p1:List Prop},zJ P env envR C.nt ops rs x ox s=some (s1,p1)->All p1->(∀ a' w',St C s1 a' w'->wpAnyIn (FW C.rd) 0 P .any ops Q fuel (listed.setIfInBounds x true) a' w')->
    wpOpIn (FW C.rd) 0 P ops Q x (wpAnyIn (FW C.rd) 0 P .any ops Q fuel (listed.setIfInBounds x true)) a w:=by
    intro s1 p1 b1 hp1 hn
    have step:=zbN henv henvR b1 hp1 hs (next:=wpAnyIn (FW C.rd) 0 P .any ops Q fuel (listed.setIfInBounds x true)) (Q:=Q) hn
    unfold wpOpIn
    rw[hox]
    dsimp only
    split
    .rename_i hw;rw[if_pos hw]at step;exact step
    .rename_i hw;rw[if_neg hw]at step;exact⟨fun _ _=>trivial,step⟩
   obtain⟨a1,a2,rfl⟩:=split2 hlA ⟨hlt,h0⟩
   obtain⟨b1,b2,rfl⟩:=split2 hlB ⟨hlt,h0⟩
   have subA:(a1++a2).Sublist (a1++x::a2):=List.Sublist.append (List.Sublist.refl _) (List.sublist_cons_self ..)
   have subB:(b1++b2).Sublist (b1++x::b2):=List.Sublist.append (List.Sublist.refl _) (List.sublist_cons_self ..)
   have one:∀ {l1 l2:List Nat} {u v:Nat},(l1++x::l2).Nodup->(l1++x::l2).Pairwise (fun y x=>okX ops rs (exP u v) y x=true)->x=u->(l1++l2).Pairwise (fun y x=>okX ops rs (fun _ _=>false) y x=true):=by
    intro l1 l2 u v hnd hpw hxu
    have h1:=List.Pairwise.sublist (List.Sublist.append (List.Sublist.refl l1) (List.sublist_cons_self x l2)) hpw
    have hnx:∀ y ∈ l1++l2,y≠x:=by
     intro y hy e
     subst e
     rw[List.nodup_append]at hnd
     rcases List.mem_append.1 hy with hm|hm
     .exact hnd.2.2 y hm y (List.mem_cons_self ..) rfl
     .exact (List.nodup_cons.1 hnd.2.1).1 hm
    refine(List.pairwise_iff_forall_sublist.2 fun {y z} hyz=>?_)
    have h2:=List.pairwise_iff_forall_sublist.1 h1 hyz
    unfold okX exP at h2
    unfold okX
    rw[Bool.and_eq_true,Bool.or_eq_true]at h2
    rw[Bool.or_false,Bool.and_eq_true]
    refine⟨?_,h2.2⟩
    rcases h2.1 with h3|h3
    .exact h3
    .rw [Bool.and_eq_true]at h3
     exact absurd ((Nat.eq_of_beq_eq_true h3.1).trans hxu.symm) (hnx y (hyz.subset (by simp)))
   have lenA:(a1++a2).length<=fuel:=by simp only[List.length_append,List.length_cons]at hleA ⊢;omega
   have lenB:(b1++b2).length<=fuel:=by simp only[List.length_append,List.length_cons]at hleB ⊢;omega
   by_cases hxq:x=q
   . -- 'q' comes first:the second order
    have hpq:x≠p:=fun e=>hne (e.symm.trans hxq)
    obtain⟨s1,p1,p2,c1,c2,hp1,hp2⟩:=go hlB hpB hpq hB hpsB
    refine fin c1 hp1 fun a' w' hs'=>ztd henv henvR hqB hbk fuel _ (b1++b2) s1 p2 a' w' (by simpa using hsz) (zgf hsz hlt hlB hnB) (hnB.sublist subB) (one hnB hpB hxq) (zfs hox hcl hall) lenB c2 hp2 hs'
   .obtain ⟨s1,p1,p2,c1,c2,hp1,hp2⟩:=go hlA hpA hxq hA hpsA
    by_cases hxp:x=p
    .refine fin c1 hp1 fun a' w' hs'=>ztd henv henvR hqA hbk fuel _ (a1++a2) s1 p2 a' w' (by simpa using hsz) (zgf hsz hlt hlA hnA) (hnA.sublist subA) (one hnA hpA hxp) (zfs hox hcl hall) lenA c2 hp2 hs'
    .obtain ⟨s1',p1',p2',d1,d2,hp1',hp2'⟩:=go hlB hpB hxp hB hpsB
     rw[c1]at d1
     cases d1
     exact fin c1 hp1 fun a' w' hs'=>ih _ (a1++a2) (b1++b2) s1 p2 p2' a' w' (by simpa using hsz) (zgf hsz hlt hlA hnA) (zgf hsz hlt hlB hnB) (hnA.sublist subA) (hnB.sublist subB)
      (List.Pairwise.sublist subA hpA) (List.Pairwise.sublist subB hpB) (zfs hox hcl hall) lenA lenB c2 d2 hp2 hp2' hs'
def zu3(ops:Array Oper)(rs:List Nat)(p q:Nat)(lB:List Nat):Bool:=
 !Nat.beq p q&&(zeF (okX ops rs (exP p q)) (List.range ops.size)&&(zeF (okX ops rs (exP q p)) lB&&(zaQ lB&&((List.range ops.size).all (fun i=>zaa i lB)&&(lB.all (fun i=>Nat.blt i ops.size)&&Nat.ble lB.length ops.size)))))
theorem zmy:∀ {l:List Nat},zaQ l=true->l.Nodup
 | [],_=>.nil
 | x::r,h=>by
  simp only[zaQ,Bool.and_eq_true]at h
  refine List.nodup_cons.2 ⟨fun hm=>?_,zmy h.2⟩
  have h1:=h.1
  simp[]at h1
  first|exact h1 x hm rfl|(have:=h1 x hm;simp at this)|(have:=h1 hm;simp at this)
theorem zBp{env:Env}(henv:zau P env){envR:zbd}(henvR:zaR P envR){rs:List Nat}(hm:P.follows .mixedOrders=true){id:Nat}{ops:Array Oper}{Q:Exit->S->Prop}{sA sB:S}{psA psB:List Prop}{p q:Nat}{lB:List Nat}
 (hk:zu3 ops rs p q lB=true) (hb:zhl ops=true)
 (hA:yn P env envR C.nt ops rs (List.range ops.size) s=some (sA,psA)) (hB:yn P env envR C.nt ops rs lB s=some (sB,psB)) (hpA:All psA) (hpB:All psB) (hqA:Q .normal sA) (hqB:Q .normal sB):T P C (.region id ops true) s Q:=by
 intro a w hs
 unfold zu3 at hk
 simp only[Bool.and_eq_true,Bool.not_eq_true']at hk
 obtain⟨h0,h1,h2,h3,h4,h5,h6⟩:=hk
 have hne:p≠q:=fun e=>by rw[e,Nat.beq_refl]at h0;cases h0
 have hnB:=zmy h3
 have hin:∀ i,i ∈ lB↔i<ops.size:=fun i=>⟨fun hi=>Nat.le_of_ble_eq_true (List.all_eq_true.1 h5 i hi),fun hi=>za0.1 (List.all_eq_true.1 h4 i (List.mem_range.2 hi))⟩
 have hlen:lB.length<=ops.size:=Nat.le_of_ble_eq_true h6
 have pend:∀ {l:List Nat},(∀ i,i ∈ l↔i<ops.size)->zvm ops (Array.replicate ops.size false) l:=by
  intro l hl i
  rw[hl i]
  constructor
  .intro hi;exact⟨hi,by simp[hi]⟩
  .exact fun h=>h.1
 refine wpIn_region_any hm ?_
 refine zGV henv henvR hne (fun a' w' hs'=>⟨sA,hqA,hs'⟩) (fun a' w' hs'=>⟨sB,hqB,hs'⟩) (zfv hb) ops.size _ (List.range ops.size) lB s psA psB a _ (by simp) (pend fun i=>List.mem_range) (pend hin) List.nodup_range hnB
  (zdu h1) (zdu h2) ?_ (by simp) hlen hA hB hpA hpB hs.drew
 intro x hx
 exfalso
 simp only[lsF]at hx
 rw[Array.getD_eq_getD_getElem?,Array.getElem?_replicate]at hx
 split at hx <;> simp at hx
end Go.Am
/-! Drawn regions: a store may go ahead of reads of other objects;which objects they are is seen at the end of the one order that was run. -/
namespace Go.Am
open Go Go.RowKit
variable {P:Program}{C:Ctx}{s s':S}{a a':Act}{w w':World}
def znI:Op->Bool
 | .store _ _ _=>true
 | _=>false
def ziF:Op->Bool
 | .load _ _=>true
 | .indexAddr _ _ _=>true
 | _=>false
def ziK:List AV->Option Nat
 | .ref id _::_=>some id
 | .aptr id _ _::_=>some id
 | _=>none
def zgh(id:Nat):AV->Bool
 | .ref j _=>!Nat.beq j id
 | .aptr j _ _=>!Nat.beq j id
 | .arr j=>!Nat.beq j id
 | .p _=>true
 | _=>false
def zNF(ys xs:List AV):Bool:=match ziK xs with
 | some id=>ys.all (zgh id)
 | none=>false
theorem zld{id:Nat}:∀ {ys:List AV},ys.all (zgh id)=true->zbU none ys=(ys,[])
 | [],_=>rfl
 | y::r,h=>by
  rw[List.all_cons,Bool.and_eq_true]at h
  have h2:=zld h.2
  cases y <;> first|(simp only[zgh,Bool.false_eq_true]at h;exact absurd h.1 (by decide))|(simp only[zbU,zel,h2];rfl)
theorem zuK{xs:List AV}{id:Nat}(h:ziK xs=some id):ziK (zbU none xs).1=some id:=by
 cases xs with
 | nil=>cases h
 | cons x r=>cases x <;> first|exact h|cases h
theorem zA5{ob:Nat->Option AObj}{id:Nat}{o:Option AObj}{t:TypeId}{ys:List AV}(h:ys.all (zgh id)=true):zcL P (upd ob id o) t ys=zcL P ob t ys:=by
 cases ys with
 | nil=>rfl
 | cons y r=>
  rw[List.all_cons,Bool.and_eq_true]at h
  cases r with
  | nil=>
   cases y with
   | ref j k=>
    have hj:j≠id:=fun e=>by have h1:=h.1;rw[e]at h1;simp[zgh]at h1
    simp only[zcL,zC _ _ hj]
   | aptr j k l=>
    have hj:j≠id:=fun e=>by have h1:=h.1;rw[e]at h1;simp[zgh]at h1
    simp only[zcL,zC _ _ hj]
   | p x=>cases x <;> rfl
   | _=>rfl
  | cons z r=>cases y <;> first|rfl|(rename_i x;cases x <;> rfl)
theorem zKH{ob:Nat->Option AObj}{id:Nat}{o:Option AObj}{t:TypeId}{ys:List AV}(h:ys.all (zgh id)=true):zao P (upd ob id o) t ys=zao P ob t ys:=by
 cases ys with
 | nil=>rfl
 | cons y r=>
  rw[List.all_cons,Bool.and_eq_true]at h
  cases y with
  | arr j=>
   have hj:j≠id:=fun e=>by have h1:=h.1;rw[e]at h1;simp[zgh]at h1
   cases r with
   | nil=>rfl
   | cons z r=>
    cases r with
    | nil=>cases z <;> first|rfl|(rename_i x;cases x <;> first|rfl|simp only[zao,zC _ _ hj])
    | cons _ _=>cases z <;> first|rfl|(rename_i x;cases x <;> rfl)
  | _=>rfl
theorem znW{env:Env}{ob:Nat->Option AObj}{id:Nat}{o:Option AObj}{op:Op}{ys:List AV}(hop:ziF op=true)(h:ys.all (zgh id)=true):evV P env (upd ob id o) op ys=evV P env ob op ys:=by
 unfold evV
 cases op <;> simp only[ziF,Bool.false_eq_true]at hop
 .simp only[evL,zA5 h,evC]
 .simp only[evL,zKH h,evC]
theorem zA3{ob:Nat->Option AObj}{t:TypeId}{xs:List AV}{id:Nat}{r:Nat×AObj×Option Prop}(hi:ziK xs=some id)(h:zd7 P ob t xs=some r):r.1=id:=by
 unfold zd7 at h
 repeat' split at h
 all_goals first|cases h|skip
 all_goals (simp only[ziK,Option.some.injEq]at hi;exact hi)
theorem zTn{env:Env}{nt:Nat}{ops:Array Oper}{x y:Oper}{s s1 s2:S}{p1 p2:List Prop}(hap:Oper.apart ops y x=true)(hy:ziF y.op=true)(hx:znI x.op=true)(hyg:y.guard=none)
 (hsep:zNF (zQ s y) (zQ s x)=true) (h1:yx P env nt ops y s=some (s1,p1)) (h2:yx P env nt ops x s1=some (s2,p2)):
 ∃ s1',yx P env nt ops x s=some (s1',p2)/\yx P env nt ops y s1'=some (s2,p1):=by
 obtain⟨a1,a2,a3⟩:=zaz hap
 have ey:zax y.op=false:=by cases hop:y.op <;> rw[hop]at hy <;> first|rfl|cases hy
 have ex:zax x.op=true:=by cases hop:x.op <;> rw[hop]at hx <;> first|rfl|cases hx
 rw[yh ey]at h1
 obtain⟨ry,hry,he⟩:=map_some h1
 cases he
 rw[yc ex]at h2
 obtain⟨hv,e1,e2,_⟩:=za9 h2
 have hs:=e2 s.sl (zar a1 s.sl ry.v).symm (yQ a1 s.sl ry.v).symm
 refine⟨{ s2 with sl:=yo s.sl x.dst hv },by rw[yc ex];exact hs,?_⟩
 rw[yh ey]
 have hob:∃ id o,s2.ob=upd s.ob id o/\ziK (zQ s x)=some id:=by
  unfold zNF at hsep
  split at hsep
  .rename_i id hid
   unfold zd8 at hs
   split at hs
   .obtain ⟨⟨s3,ok⟩,hE,he⟩:=map_some hs
    have hs3:s3.ob=s2.ob:=by
     have:=congrArg (fun q:S×List Prop=>q.1.ob) he
     exact this
    unfold evE at hE
    cases hop:x.op <;> rw[hop]at hx hE <;> first|cases hx|skip
    rename_i t u v
    dsimp only at hE
    split at hE
    .obtain ⟨r,hr,hr2⟩:=map_some hE
     have hid2:ziK (zbU none (zQ s x)).1=some id:=zuK hid
     have hr3:r.1=id:=by
      refine zA3 (P:=P) hid2 (r:=r) (ob:=s.ob) (t:=t) ?_
      unfold zQ
      rw[hop]
      exact hr
     cases hr2
     refine⟨id,some r.2.1,?_,hid⟩
     rw[<-hr3];exact hs3.symm
    .cases hE
   .cases hs
  .cases hsep
 obtain⟨id,o,hob,hid⟩:=hob
 have hoff:(zQ s y).all (zgh id)=true:=by
  unfold zNF at hsep
  rw[hid]at hsep
  exact hsep
 have hmem:yN P env nt ops y s.sl s2.ob=some ry:=by
  rw[hob,<-hry]
  have hg:zV ops s.sl y=some none:=by unfold zV;rw[hyg]
  have hst:zP none y.op (y.op.operands.toList.map (aev s.sl))=(zQ s y,[]):=by
   have:zP none y.op (zQ s y)=zbU none (zQ s y):=by
    cases hop:y.op <;> rw[hop]at hy <;> first|rfl|cases hy
   exact this.trans (zld hoff)
  unfold yN
  rw[hg]
  cases yL nt y.dst with
  | false=>rfl
  | true=>
   dsimp only
   rw[hst]
   dsimp only
   rw[znW hy hoff]
 have:yN P env nt ops y (yo s.sl x.dst hv) s2.ob=some ry:=by
  rw[zbq (P:=P) a3];exact hmem
 show(yN P env nt ops y (yo s.sl x.dst hv) s2.ob).map _=_
 rw[this]
 simp only[Option.map_some,zcM]
 have e4:yo (yo s.sl x.dst hv) y.dst ry.v=s2.sl:=by
  rw[e1]
  show _=yo (yo s.sl y.dst ry.v) x.dst hv
  rw[zbw hv ry.v (fun d hd e=>a2 d e hd)]
 rw[e4]
def noGd:AV->Bool
 | .gd _ _=>false
 | _=>true
def zRx(ys xs:List AV):Option Nat->Bool
 | some d=>ys.all (zgh d)&&(match xs with
  | .arr o::_=>ys.all (zgh o)
  | _=>true)
 | none=>false
def zRw(ox:Oper)(ys xs:List AV):Bool:=match znI ox.op with
 | true=>zNF ys xs
 | false=>za3 ox.op&&(xs.all noGd&&zRx ys xs ox.dst)
theorem zET{x y:AV}{id:Nat}{xs:List AV}(h:(zbU none xs).1=[x,y])(hx:x=.arr id):∃ r,xs=.arr id::r\/∃ c,xs=.gd c (.arr id)::r:=by
 cases xs with
 | nil=>cases h
 | cons z r=>
  subst hx
  cases z with
  | gd c w=>
   have h1:w=.arr id:=by
    have:=congrArg (fun l:List AV=>l.head?) h
    simpa[zbU,zel]using this
   exact⟨r,.inr ⟨c,by rw[h1]⟩⟩
  | _=>
   have h1:=congrArg (fun l:List AV=>l.head?) h
   simp only[zbU,zel,List.head?_cons,Option.some.injEq]at h1
   exact⟨r,.inl (by rw[h1])⟩
theorem zTq{env:Env}{nt:Nat}{ops:Array Oper}{x y:Oper}{s s1 s2:S}{p1 p2:List Prop}(hap:Oper.apart ops y x=true)(hy:ziF y.op=true)(hx:za3 x.op=true)(hyg:y.guard=none)
 (hng:(zQ s x).all noGd=true)
 (hsep:zRx (zQ s y) (zQ s x) x.dst=true) (h1:yx P env nt ops y s=some (s1,p1)) (h2:yx P env nt ops x s1=some (s2,p2)):
 ∃ s1',yx P env nt ops x s=some (s1',p2)/\yx P env nt ops y s1'=some (s2,p1):=by
 obtain⟨a1,a2,a3⟩:=zaz hap
 have ey:zax y.op=false:=by cases hop:y.op <;> rw[hop]at hy <;> first|rfl|cases hy
 have hm:zdw x.op=true:=by unfold zdw;rw[hx,Bool.or_true]
 have ex:zax x.op=true:=zbJ hm
 rw[yh ey]at h1
 obtain⟨ry,hry,he⟩:=map_some h1
 cases he
 rw[yc ex]at h2
 obtain⟨hv,e1,e2,_⟩:=za9 h2
 have hs:=e2 s.sl (zar a1 s.sl ry.v).symm (yQ a1 s.sl ry.v).symm
 refine⟨{ s2 with sl:=yo s.sl x.dst hv },by rw[yc ex];exact hs,?_⟩
 rw[yh ey]
 obtain⟨_,d,hd,_,_,hcase⟩:=zb8 hm hs
 unfold zRx at hsep
 rw[hd]at hsep
 dsimp only at hsep
 rw[Bool.and_eq_true]at hsep
 obtain⟨hoff,hold⟩:=hsep
 have hmem:evV P env s2.ob y.op (zQ s y)=evV P env s.ob y.op (zQ s y):=by
  rcases hcase with⟨hb,_⟩|⟨as,ts,t,tx,u,v,r,hop,_,_,_,hxs,hr,hs3,_⟩
  .exfalso
   unfold za3 at hx
   split at hx
   .rename_i hop;rw[hop]at hb;cases hb
   .cases hx
  .have hob:s2.ob=upd (zbh s.ob r.2.1) d (some r.1):=congrArg S.ob hs3
   rw[hob,znW hy hoff]
   cases ho:r.2.1 with
   | none=>rfl
   | some id=>
    obtain⟨hu,_⟩:=zfq hr ho
    have hxs':(zbU none (zQ s x)).1=[u,v]:=by
     rw[<-hxs]
     rw[hop];rfl
    obtain⟨q,hq|⟨c,hq⟩⟩:=zET hxs' hu
    .rw [hq]at hold
     exact znW (P:=P) (ob:=s.ob) (o:=none) hy hold
    .rw [hq]at hng;cases hng
 have:yN P env nt ops y (yo s.sl x.dst hv) s2.ob=some ry:=by
  rw[zbq (P:=P) a3,<-hry]
  have hg:zV ops s.sl y=some none:=by unfold zV;rw[hyg]
  have hst:zP none y.op (y.op.operands.toList.map (aev s.sl))=(zQ s y,[]):=by
   have:zP none y.op (zQ s y)=zbU none (zQ s y):=by
    cases hop:y.op <;> rw[hop]at hy <;> first|rfl|cases hy
   exact this.trans (zld hoff)
  unfold yN
  rw[hg]
  cases yL nt y.dst with
  | false=>rfl
  | true=>
   dsimp only
   rw[hst]
   dsimp only
   rw[hmem]
 show(yN P env nt ops y (yo s.sl x.dst hv) s2.ob).map _=_
 rw[this]
 simp only[Option.map_some,zcM]
 have e4:yo (yo s.sl x.dst hv) y.dst ry.v=s2.sl:=by
  rw[e1]
  show _=yo (yo s.sl y.dst ry.v) x.dst hv
  rw[zbw hv ry.v (fun d hd e=>a2 d e hd)]
 rw[e4]
def yT(σ:Nat->AV)(o:Oper):List AV:=o.op.operands.toList.map (aev σ)
def zDM(ops:Array Oper)(k:Nat)(o:Oper):Bool:=(List.range ops.size).all fun i=>Nat.blt i k||match ops[i]? with
 | some p=>(match p.dst with
  | some d=>(Oper.looksAt ops o).all fun t=>!Nat.beq t d
  | none=>true)
 | none=>true
theorem ziN{ops:Array Oper}{k:Nat}{o:Oper}(h:zDM ops k o=true){i:Nat}{p:Oper}(hk:k<=i)(hi:ops[i]?=some p){t:Nat}(ht:t ∈ Oper.looksAt ops o):p.dst≠some t:=by
 intro hd
 have h1:=List.all_eq_true.1 h i (List.mem_range.2 (Array.getElem?_eq_some_iff.1 hi).1)
 rw[hi]at h1
 dsimp only at h1
 rw[hd,Bool.or_eq_true]at h1
 rcases h1 with h1|h1
 .have:i<k:=by simpa[Nat.blt_eq]using h1
  omega
 .have h2:=List.all_eq_true.1 h1 t ht
  simp at h2
def zJD(ops:Array Oper)(σ:Nat->AV)(y x:Nat)(oy ox:Oper):Bool:=
 Oper.apart ops oy ox&&(ziF oy.op&&((znI ox.op||za3 ox.op)&&(oy.guard.isNone&&(zRw ox (yT σ oy) (yT σ ox)&&(zDM ops y oy&&zDM ops x ox)))))
def rsG(ops:Array Oper)(rs:List Nat):Bool:=rs.all fun i=>match ops[i]? with
 | some o=>o.guard.isSome&&yk o.op
 | none=>true
theorem zIj{ops:Array Oper}{rs:List Nat}(h:rsG ops rs=true){i:Nat}{o:Oper}(hi:zaa i rs=true)(ho:ops[i]?=some o):o.guard.isSome=true/\yk o.op=true:=by
 have h1:=List.all_eq_true.1 h i (za0.1 hi)
 rw[ho]at h1
 simpa using h1
def zFT(ops:Array Oper)(rs:List Nat)(σ:Nat->AV)(y x:Nat)(oy ox:Oper):Bool:=
 Oper.apart ops oy ox&&(rsG ops rs&&(zaa y rs&&(!zaa x rs&&(ziF ox.op&&(oy.guard.isSome&&(yk oy.op&&((match oy.dst with
  | some d=>(yT σ ox).all (zgh d)
  | none=>false)&&zDM ops y ox)))))))
theorem zou{g:Gd}{id:Nat}:∀ {ys:List AV},ys.all (zgh id)=true->zbU g ys=(ys,[])
 | [],_=>rfl
 | y::r,h=>by
  rw[List.all_cons,Bool.and_eq_true]at h
  have h2:=zou (g:=g) h.2
  cases y <;> first|(simp only[zgh,Bool.false_eq_true]at h;exact absurd h.1 (by decide))|(simp only[zbU,zel,h2];rfl)
theorem zp9{env:Env}{envR:zbd}{nt:Nat}{ops:Array Oper}{rs:List Nat}{y:Nat}{o:Oper}{s s1:S}{p:List Prop}(hy:zaa y rs=true)(hg:o.guard.isSome=true)(hb:yk o.op=true)
 (h:zJ P env envR nt ops rs y o s=some (s1,p)):
 ∃ c d ob ok,zV ops s.sl o=some (some c)/\o.dst=some d/\yL nt (some d)=true/\s.us d=false/\s.ob d=none/\evB P o.op (zP (some c) o.op (yT s.sl o)).1=some (ob,ok)/\s1=yI s d ob/\
  p=(zP (some c) o.op (yT s.sl o)).2++((c=true)::oks none ok):=by
 unfold zJ at h
 rw[hy]at h
 dsimp only at h
 cases hgd:o.guard with
 | none=>rw[hgd]at hg;cases hg
 | some g=>
  rw[hgd]at h
  dsimp only at h
  split at h
  .rename_i c hgo hdk
   obtain⟨⟨s2,ok⟩,hE,he⟩:=map_some h
   cases he
   unfold evE at hE
   split at hE
   .rename_i hop;rw[hop]at hb;cases hb
   .rename_i hop;rw[hop]at hb;cases hb
   .rename_i as ts hop;rw[hop]at hb;cases hb
   .split at hE
    .rename_i ob ok' d hB hdst
     split at hE
     .rename_i hu ho
      cases hE
      exact⟨c,d,ob,ok,hgo,hdst,by rw[<-hdst];exact hdk,hu,ho,hB,rfl,rfl⟩
     .cases hE
    .cases hE
  .cases h
theorem zBh{env:Env}{envR:zbd}{nt:Nat}{ops:Array Oper}{rs:List Nat}{y:Nat}{o:Oper}{s:S}{c:Bool}{d:Nat}{ob:AObj}{ok:Option Prop}(hy:zaa y rs=true)(hg:o.guard.isSome=true)(hb:yk o.op=true)
 (h1:zV ops s.sl o=some (some c)) (h2:o.dst=some d) (h3:yL nt (some d)=true) (h4:s.us d=false) (h5:s.ob d=none) (h6:evB P o.op (zP (some c) o.op (yT s.sl o)).1=some (ob,ok)):
 zJ P env envR nt ops rs y o s=some (yI s d ob,(zP (some c) o.op (yT s.sl o)).2++((c=true)::oks none ok)):=by
 have hE:evE P s o (zP (some c) o.op (yT s.sl o)).1=some (yI s d ob,ok):=by
  unfold evE
  split
  .rename_i hop;rw[hop]at hb;cases hb
  .rename_i hop;rw[hop]at hb;cases hb
  .rename_i as ts hop;rw[hop]at hb;cases hb
  .rw [h6,h2]
   dsimp only
   rw[h4,h5]
 unfold zJ
 rw[hy]
 dsimp only
 cases hgd:o.guard with
 | none=>rw[hgd]at hg;cases hg
 | some g=>
  dsimp only
  rw[h1,h2,h3]
  dsimp only
  unfold yT at hE
  rw[hE]
  rfl
theorem zTo{env:Env}{envR:zbd}{rs:List Nat}{nt:Nat}{ops:Array Oper}{x y:Nat}{ox oy:Oper}{s s1 s2:S}{p1 p2:List Prop}(hap:Oper.apart ops oy ox=true)(hy:zaa y rs=true)(hx:zaa x rs=false)(hr:ziF ox.op=true)
 (hg:oy.guard.isSome=true) (hb:yk oy.op=true) (hoff:∀ d,oy.dst=some d->(yT s.sl ox).all (zgh d)=true)
 (h1:zJ P env envR nt ops rs y oy s=some (s1,p1)) (h2:zJ P env envR nt ops rs x ox s1=some (s2,p2)):
 ∃ s1',zJ P env envR nt ops rs x ox s=some (s1',p2)/\zJ P env envR nt ops rs y oy s1'=some (s2,p1):=by
 obtain⟨a1,a2,a3⟩:=zaz hap
 obtain⟨c,d,ob,ok,g1,g2,g3,g4,g5,g6,rfl,rfl⟩:=zp9 hy hg hb h1
 have he:zax ox.op=false:=by cases hop:ox.op <;> rw[hop]at hr <;> first|rfl|cases hr
 have hxA:∀ s,zJ P env envR nt ops rs x ox s=yx P env nt ops ox s:=fun s=>by unfold zJ;rw[hx]
 rw[hxA,yh he]at h2
 obtain⟨rx,hrx,hq⟩:=map_some h2
 cases hq
 have ho:=hoff d g2
 have hv:yN P env nt ops ox s.sl s.ob=some rx:=by
  rw[<-hrx]
  show _=yN P env nt ops ox (upd s.sl d _) (upd s.ob d (some ob))
  rw[zsg (P:=P) (a1 d g2)]
  unfold yN
  cases hgo:zV ops s.sl ox with
  | none=>rfl
  | some g=>
   cases yL nt ox.dst with
   | false=>rfl
   | true=>
    dsimp only
    have hst:zP g ox.op (ox.op.operands.toList.map (aev s.sl))=(yT s.sl ox,[]):=by
     have:zP g ox.op (yT s.sl ox)=zbU g (yT s.sl ox):=by
      cases hop:ox.op <;> rw[hop]at hr <;> first|rfl|cases hr
     exact this.trans (zou ho)
    rw[hst]
    dsimp only
    rw[znW hr ho]
 refine⟨zcM s ox.dst rx.v,by rw[hxA,yh he,hv];rfl,?_⟩
 have e1:yT (zcM s ox.dst rx.v).sl oy=yT s.sl oy:=yQ a3 s.sl rx.v
 have e2:zV ops (zcM s ox.dst rx.v).sl oy=zV ops s.sl oy:=zar a3 s.sl rx.v
 have h:=zBh (P:=P) (env:=env) (envR:=envR) (nt:=nt) (ops:=ops) (s:=zcM s ox.dst rx.v) (ob:=ob) (ok:=ok) (c:=c) hy hg hb (by rw[e2];exact g1) g2 g3 g4 g5 (by rw[e1];exact g6)
 rw[h,e1]
 have e3:yI (zcM s ox.dst rx.v) d ob=zcM (yI s d ob) ox.dst rx.v:=by
  have e4:upd (yo s.sl ox.dst rx.v) d (ob.handle d)=yo (upd s.sl d (ob.handle d)) ox.dst rx.v:=zbw (σ:=s.sl) (d:=ox.dst) (d':=some d) rx.v (ob.handle d) fun q hq e=>a2 d g2 (by rw[hq,e])
  show({ sl:=upd (yo s.sl ox.dst rx.v) d (ob.handle d),ob:=upd s.ob d (some ob),us:=upd s.us d true }:S)={ sl:=yo (upd s.sl d (ob.handle d)) ox.dst rx.v,ob:=upd s.ob d (some ob),us:=upd s.us d true }
  rw[e4]
 rw[e3]
def zpF(ops:Array Oper)(rs:List Nat)(σ:Nat->AV)(y x:Nat)(oy ox:Oper):Bool:=zep ops rs y x oy ox||((rs.isEmpty&&zJD ops σ y x oy ox)||zFT ops rs σ y x oy ox)
theorem zpE{ops:Array Oper}{rs:List Nat}{σ:Nat->AV}{y x:Nat}{oy ox:Oper}(h:zpF ops rs σ y x oy ox=true):Oper.apart ops oy ox=true:=by
 unfold zpF at h
 rw[Bool.or_eq_true,Bool.or_eq_true]at h
 rcases h with h|h|h
 .exact (zd4 h).2.2.2
 .unfold zJD at h
  simp only[Bool.and_eq_true]at h
  exact h.2.1
 .unfold zFT at h
  rw[Bool.and_eq_true]at h
  exact h.1
theorem zJC{ops:Array Oper}{rs:List Nat}{σ:Nat->AV}{y x:Nat}{oy ox:Oper}(h:zpF ops rs σ y x oy ox=true):zaa y rs=false\/(zaa y rs=true/\oy.guard.isSome=true/\yk oy.op=true):=by
 unfold zpF at h
 rw[Bool.or_eq_true,Bool.or_eq_true]at h
 rcases h with h|h|h
 .exact .inl (zd4 h).1
 .simp only[Bool.and_eq_true]at h
  cases rs with
  | nil=>exact .inl rfl
  | cons _ _=>cases h.1
 .unfold zFT at h
  simp only[Bool.and_eq_true]at h
  obtain⟨_,_,h1,_,_,h2,h3,_⟩:=h
  exact .inr ⟨h1,h2,h3⟩
theorem zLd{env:Env}{nt:Nat}{ops:Array Oper}{o:Oper}{s s1:S}{p:List Prop}(h:yx P env nt ops o s=some (s1,p)):∃ v,s1.sl=yo s.sl o.dst v:=by
 cases he:zax o.op with
 | false=>
  rw[yh he]at h
  obtain⟨r,_,h2⟩:=map_some h
  cases h2
  exact⟨r.v,rfl⟩
 | true=>
  rw[yc he]at h
  obtain⟨hv,e1,_⟩:=za9 h
  exact⟨hv,e1⟩
theorem zGR{env:Env}{envR:zbd}{nt:Nat}{ops:Array Oper}{rs:List Nat}(hrs:rsG ops rs=true){i:Nat}{o:Oper}(ho:ops[i]?=some o){s s1:S}{p:List Prop}(h:zJ P env envR nt ops rs i o s=some (s1,p)):∃ v,s1.sl=yo s.sl o.dst v:=by
 cases hi:zaa i rs with
 | false=>
  unfold zJ at h
  rw[hi]at h
  exact zLd h
 | true=>
  obtain⟨h1,h2⟩:=zIj hrs hi ho
  obtain⟨c,d,ob,ok,_,g2,_,_,_,_,rfl,_⟩:=zp9 hi h1 h2 h
  exact⟨ob.handle d,by rw[g2];rfl⟩
theorem znY{env:Env}{envR:zbd}{nt:Nat}{ops:Array Oper}{rs:List Nat}(hrs:rsG ops rs=true){t:Nat}:∀ (l:List Nat) (s s':S) (ps:List Prop),yn P env envR nt ops rs l s=some (s',ps)->(∀ i ∈ l,∀ o,ops[i]?=some o->o.dst≠some t)->s'.sl t=s.sl t
 | [],s,s',ps,h,_=>by
  simp only[yn]at h
  cases h;rfl
 | i::l,s,s',ps,h,hd=>by
  simp only[yn]at h
  cases hi:ops[i]? with
  | none=>rw[hi]at h;cases h
  | some o=>
   rw[hi]at h
   dsimp only at h
   cases h1:zJ P env envR nt ops rs i o s with
   | none=>rw[h1]at h;cases h
   | some q=>
    obtain⟨s1,p1⟩:=q
    rw[h1]at h
    dsimp only at h
    cases h2:yn P env envR nt ops rs l s1 with
    | none=>rw[h2]at h;cases h
    | some q=>
     obtain⟨s2,p2⟩:=q
     rw[h2]at h;cases h
     obtain⟨v,hv⟩:=zGR hrs hi h1
     rw[znY hrs l s1 s' p2 h2 fun j hj=>hd j (List.mem_cons_of_mem _ hj),hv]
     have hn:=hd i (List.mem_cons_self ..) o hi
     cases hdst:o.dst with
     | none=>rfl
     | some d=>exact zC _ _ fun e=>hn (by rw[hdst,e])
theorem ziV{ops:Array Oper}{o:Oper}{σ σ':Nat->AV}(h:∀ t ∈ Oper.looksAt ops o,σ t=σ' t):yT σ o=yT σ' o:=by
 refine List.map_congr_left fun x hx=>?_
 cases x with
 | tmp t=>exact h t (List.mem_append_left _ (List.mem_filterMap.2 ⟨.tmp t,hx,rfl⟩))
 | _=>rfl
theorem zbE.stepV{env:Env}{envR:zbd}{rs:List Nat}{nt:Nat}{ops:Array Oper}{x y:Nat}{ox oy:Oper}{σ:Nat->AV}{s s1:S}{p1:List Prop}(hi:zpF ops rs σ y x oy ox=true)
 (h1:zJ P env envR nt ops rs y oy s=some (s1,p1)) (hsem:zbE s ox):zbE s1 ox:=by
 have hap:=zpE hi
 rcases zJC hi with hy|⟨hy,hg,hb⟩
 .unfold zJ at h1
  rw[hy]at h1
  exact zbE.step hap h1 hsem
 .obtain ⟨c,d,ob,ok,_,g2,_,_,_,_,rfl,_⟩:=zp9 hy hg hb h1
  obtain⟨a1,_,_⟩:=zaz hap
  have ha:zQ (yI s d ob) ox=zQ s ox:=yQ (dst:=some d) (fun q hq=>by cases hq;exact a1 d g2) s.sl _
  refine⟨fun q hq=>?_,fun hp=>?_⟩
  .have hq:upd s.us d true q=false:=hq
   by_cases e:q=d
   .subst e;rw[zw]at hq;cases hq
   .rw [zC _ _ e]at hq
    show upd s.ob d (some ob) q=none
    rw[zC _ _ e];exact hsem.free q hq
  .rw [ha]at hp ⊢
   obtain⟨γ,M,vs,h3,h4⟩:=hsem.rel hp
   refine⟨γ,M,vs,h3,fun q hq=>?_⟩
   have hq:upd s.us d true q=false:=hq
   by_cases e:q=d
   .subst e;rw[zw]at hq;cases hq
   .rw [zC _ _ e]at hq;exact h4 q hq
theorem zTm{env:Env}{envR:zbd}{rs:List Nat}{nt:Nat}{ops:Array Oper}{x y:Nat}{ox oy:Oper}{σ:Nat->AV}{s s1 s2:S}{p1 p2:List Prop}(hi:zpF ops rs σ y x oy ox=true)
 (hσ:rs=[]->zJD ops σ y x oy ox=true->zRw ox (zQ s oy) (zQ s ox)=true) (hγ:zFT ops rs σ y x oy ox=true->∀ d,oy.dst=some d->(yT s.sl ox).all (zgh d)=true) (hsem:zbE s ox)
 (h1:zJ P env envR nt ops rs y oy s=some (s1,p1)) (h2:zJ P env envR nt ops rs x ox s1=some (s2,p2)) (hp:All p2):
 ∃ s1',zJ P env envR nt ops rs x ox s=some (s1',p2)/\zJ P env envR nt ops rs y oy s1'=some (s2,p1):=by
 unfold zpF at hi
 rw[Bool.or_eq_true,Bool.or_eq_true]at hi
 rcases hi with hi|hi|hi
 .exact zIa hi hsem h1 h2 hp
 .rw [Bool.and_eq_true]at hi
  obtain⟨h0,hi⟩:=hi
  cases rs with
  | cons _ _=>cases h0
  | nil=>
   have hs:=hσ rfl hi
   unfold zJD at hi
   simp only[Bool.and_eq_true,Option.isNone_iff_eq_none]at hi
   obtain⟨k1,k2,k3,k4,_⟩:=hi
   unfold zRw at hs
   cases hst:znI ox.op with
   | true=>rw[hst]at hs;exact zTn k1 k2 hst k4 hs h1 h2
   | false=>
    rw[hst]at hs
    dsimp only at hs
    rw[Bool.and_eq_true,Bool.and_eq_true]at hs
    exact zTq k1 k2 hs.1 k4 hs.2.1 hs.2.2 h1 h2
 .have hs:=hγ hi
  unfold zFT at hi
  simp only[Bool.and_eq_true,Bool.not_eq_true']at hi
  obtain⟨k1,_,k2,k3,k4,k5,k6,_⟩:=hi
  exact zTo k1 k2 k3 k4 k5 k6 hs h1 h2
theorem zD3{env:Env}{envR:zbd}{rs:List Nat}{nt:Nat}{ops:Array Oper}{x:Nat}{ox:Oper}(hx:ops[x]?=some ox):∀ (l1 l2:List Nat) (s s':S) (ps:List Prop),(l1++x::l2).Pairwise (·<·)->
 (∀ y ∈ l1,∀ oy,ops[y]?=some oy->zpF ops rs s'.sl y x oy ox=true)->zbE s ox->All ps->yn P env envR nt ops rs (l1++x::l2) s=some (s',ps)->
 ∃ s1 p1 p2,zJ P env envR nt ops rs x ox s=some (s1,p1)/\yn P env envR nt ops rs (l1++l2) s1=some (s',p2)/\(All p1/\All p2)
 | [],l2,s,s',ps,_,_,_,hps,h=>by
  simp only[List.nil_append,yn,hx]at h ⊢
  cases h1:zJ P env envR nt ops rs x ox s with
  | none=>rw[h1]at h;cases h
  | some q=>
   obtain⟨s1,p1⟩:=q
   rw[h1]at h
   dsimp only at h
   cases h2:yn P env envR nt ops rs l2 s1 with
   | none=>rw[h2]at h;cases h
   | some q=>
    obtain⟨s2,p2⟩:=q
    rw[h2]at h;cases h
    exact⟨s1,p1,p2,rfl,h2,All.append hps⟩
 | y::l1,l2,s,s',ps,hsort,hi,hsem,hps,h=>by
  have hfull:=h
  simp only[List.cons_append,yn]at h
  cases hy:ops[y]? with
  | none=>rw[hy]at h;cases h
  | some oy=>
   rw[hy]at h
   dsimp only at h
   cases h1:zJ P env envR nt ops rs y oy s with
   | none=>rw[h1]at h;cases h
   | some q=>
    obtain⟨s1,p1⟩:=q
    rw[h1]at h
    dsimp only at h
    cases h2:yn P env envR nt ops rs (l1++x::l2) s1 with
    | none=>rw[h2]at h;cases h
    | some q=>
     obtain⟨s2,p2⟩:=q
     rw[h2]at h;cases h
     obtain⟨u1,u2⟩:=All.append hps
     have hind:=hi y (List.mem_cons_self ..) oy hy
     have hsem1:=zbE.stepV hind h1 hsem
     rw[List.cons_append]at hsort hfull
     obtain⟨hlt,hsort2⟩:=List.pairwise_cons.1 hsort
     obtain⟨t1,q1,q2,b1,b2,b3,b4⟩:=zD3 hx l1 l2 s1 s' p2 hsort2 (fun y' hy'=>hi y' (List.mem_cons_of_mem _ hy')) hsem1 u2 h2
     obtain⟨t0,c1,c2⟩:=zTm hind (fun hrs hs=>by
      subst hrs
      unfold zJD at hs
      simp only[Bool.and_eq_true]at hs
      obtain⟨_,_,_,_,g1,g2,g3⟩:=hs
      have ey:yT s'.sl oy=yT s.sl oy:=ziV (ops:=ops) fun t ht=>znY rfl _ s s' _ hfull fun i hi o ho=>by
       refine ziN g2 ?_ ho ht
       rcases List.mem_cons.1 hi with hi|hi
       .omega
       .have:=hlt i hi;omega
      have ex:yT s'.sl ox=yT s.sl ox:=ziV (ops:=ops) fun t ht=>znY rfl _ s s' _ hfull fun i hi2 o ho=>by
       have hap:i ∈ y::l1->o.dst≠some t:=fun hm hd=>by
        have h3:=zpE (hi i hm o ho)
        exact(zaz h3).1 t hd ht
       rcases List.mem_cons.1 hi2 with hi3|hi3
       .exact hap (by rw[hi3];exact List.mem_cons_self ..)
       .rcases List.mem_append.1 hi3 with hi4|hi4
        .exact hap (List.mem_cons_of_mem _ hi4)
        .refine ziN g3 ?_ ho ht
         rcases List.mem_cons.1 hi4 with hi5|hi5
         .omega
         .have:=(List.pairwise_cons.1 (List.pairwise_append.1 hsort2).2.1).1 i hi5;omega
      rw[ey,ex]at g1
      exact g1) (fun hG d hd=>by
      unfold zFT at hG
      simp only[Bool.and_eq_true]at hG
      obtain⟨_,k0,_,_,_,_,_,k7,k8⟩:=hG
      have ex:yT s'.sl ox=yT s.sl ox:=ziV (ops:=ops) fun t ht=>znY k0 _ s s' _ hfull fun i hi2 o ho=>by
       refine ziN k8 ?_ ho ht
       rcases List.mem_cons.1 hi2 with hi3|hi3
       .omega
       .have:=hlt i hi3;omega
      rw[hd,ex]at k7
      exact k7) hsem h1 b1 b3
     refine⟨t0,q1,p1++q2,c1,?_,b3,All.mk u1 b4⟩
     simp only[List.cons_append,yn,hy,c2,b2]
def zjL(ops:Array Oper)(rs:List Nat)(σ:Nat->AV):Bool:=
 (List.range ops.size).all fun x=>(List.range x).all fun y=>
  ((zmz ops.toList []).getD x 0).testBit y||(match ops[y]?,ops[x]? with
   | some oy,some ox=>zpF ops rs σ y x oy ox
   | _,_=>false)
theorem zu2{ops:Array Oper}{rs:List Nat}{σ:Nat->AV}(h:zjL ops rs σ=true){x y:Nat}{ox oy:Oper}(hxy:y<x)(hx:ops[x]?=some ox)(hy:ops[y]?=some oy)
 {listed:Nat->Bool} (hc:zdK ops listed) (hd:zQt ops listed x) (hny:listed y=false):zpF ops rs σ y x oy ox=true:=by
 unfold zjL at h
 have hlt:x<ops.size:=(Array.getElem?_eq_some_iff.1 hx).1
 have h1:=List.all_eq_true.1 h x (List.mem_range.2 hlt)
 have h2:=List.all_eq_true.1 h1 y (List.mem_range.2 hxy)
 rw[hx,hy]at h2
 rw[Bool.or_eq_true]at h2
 rcases h2 with h2|h2
 .exfalso
  cases hm:(zmz ops.toList [])[x]? with
  | none=>rw[List.getD_eq_getElem?_getD,hm]at h2;simp at h2
  | some m=>
   rw[List.getD_eq_getElem?_getD,hm]at h2
   have:=zjr (ops:=ops) ops.toList [] (fun i o ho=>by simpa using ho) (fun x m hx=>by simp at hx) x m hm listed hc hd y h2
   rw[hny]at this;cases this
 .exact h2
theorem zGU{env:Env}(henv:zau P env){envR:zbd}(henvR:zaR P envR){rs:List Nat}{ops:Array Oper}{Q:Exit->Act->World->Prop}{s':S}(hk:zjL ops rs s'.sl=true)
 (hq:∀ a' w',St C s' a' w'->Q .normal a' w'):∀ (fuel:Nat) (listed:Array Bool) (l:List Nat) (s:S) (ps:List Prop) (a:Act) (w:World),
 listed.size=ops.size->(∀ i,i ∈ l↔i<ops.size/\listed.getD i true=false)->l.Pairwise (·<·)->zdK ops (lsF listed)->l.length<=fuel->
 yn P env envR C.nt ops rs l s=some (s',ps)->All ps->St C s a w->(∀ (x:Nat) (o:Oper),ops[x]?=some o->∀ e ∈ o.after,Region.binds .any e=true->e.on<x)->wpAnyIn (FW C.rd) 0 P .any ops Q fuel listed a w:=by
 intro fuel
 induction fuel with
 | zero=>
  intro listed l s ps a w hsz hl hsort hcl hle h hps hs hbk
  have:l=[]:=List.length_eq_zero_iff.1 (Nat.le_zero.1 hle)
  subst this
  cases h
  refine⟨?_,hq a w hs⟩
  refine List.eq_nil_iff_forall_not_mem.2 fun j hj=>?_
  obtain⟨h0,o,ho,_⟩:=mem_ready.1 hj
  exact absurd ((hl j).2 ⟨(Array.getElem?_eq_some_iff.1 ho).1,h0⟩) (by simp)
 | succ fuel ih=>
  intro listed l s ps a w hsz hl hsort hcl hle h hps hs hbk
  refine⟨fun hr=>?_,fun x hx=>?_⟩
  .cases l with
   | nil=>cases h;exact hq a w hs
   | cons x r=>
    exfalso
    have hxm:=(hl x).1 (List.mem_cons_self ..)
    have hox:ops[x]?=some ops[x]:=Array.getElem?_eq_getElem hxm.1
    have:x ∈ Region.ready .any ops listed:=by
     refine mem_ready.2 ⟨hxm.2,_,hox,fun e he hbi=>?_⟩
     have hlt:=hbk x _ hox e he hbi
     cases hle':listed.getD e.on false with
     | true=>rfl
     | false=>
      exfalso
      have he2:e.on<ops.size:=Nat.lt_trans hlt hxm.1
      have hmem:e.on ∈ x::r:=by
       refine(hl e.on).2 ⟨he2,?_⟩
       have hlt3:e.on<listed.size:=by rw[hsz];exact he2
       simpa[Array.getD,hlt3]using hle'
      rcases List.mem_cons.1 hmem with h3|h3
      .omega
      .have:=List.rel_of_pairwise_cons hsort h3
       omega
    rw[hr]at this;cases this
  .obtain ⟨h0,ox,hox,hall⟩:=mem_ready.1 hx
   have hlt:=(Array.getElem?_eq_some_iff.1 hox).1
   obtain⟨l1,l2,rfl,hl1⟩:=zhX hsort ((hl x).2 ⟨hlt,h0⟩)
   have hind:∀ y ∈ l1,∀ oy,ops[y]?=some oy->zpF ops rs s'.sl y x oy ox=true:=fun y hy oy hoy=>by
    refine zu2 hk (hl1 y hy) hox hoy hcl ?_ ?_
    .intro o ho e he hb
     rw[hox]at ho;cases ho
     exact hall e he hb
    .have:=((hl y).1 (List.mem_append_left _ hy)).2
     have hy2:y<listed.size:=by rw[hsz];exact((hl y).1 (List.mem_append_left _ hy)).1
     simp only[lsF]
     simpa[Array.getD,hy2]using this
   obtain⟨s1,p1,p2,b1,b2,hp1,hp2⟩:=zD3 hox l1 l2 s s' ps hsort hind (hs.sem ox) hps h
   have step:=zbN henv henvR b1 hp1 hs (next:=wpAnyIn (FW C.rd) 0 P .any ops Q fuel (listed.setIfInBounds x true)) (Q:=Q) fun a' w' hs'=>by
    have hpw:=List.pairwise_append.1 hsort
    refine ih (listed.setIfInBounds x true) (l1++l2) s1 p2 a' w' (by simpa using hsz) (fun i=>?_) ?_ ?_ ?_ b2 hp2 hs' hbk
    .have hi:=hl i
     by_cases hix:x=i
     .subst hix
      have hxs:x<listed.size:=by rw[hsz];exact hlt
      constructor
      .intro hm
       exfalso
       rcases List.mem_append.1 hm with hm|hm
       .exact absurd (hl1 x hm) (by omega)
       .have:=List.rel_of_pairwise_cons hpw.2.1 hm
        omega
      .rintro ⟨_,hh⟩
       simp[hxs]at hh
     .rw [getD_set_ne true hix,<-hi]
      simp only[List.mem_append,List.mem_cons]
      constructor
      .rintro (h|h)
       .exact .inl h
       .exact .inr (.inr h)
      .rintro (h|h|h)
       .exact .inl h
       .exact absurd h.symm hix
       .exact .inr h
    .exact List.Pairwise.sublist (List.Sublist.append (List.Sublist.refl _) (List.sublist_cons_self ..)) hsort
    .intro y hy o ho e he hb
     simp only[lsF]at hy ⊢
     by_cases hyx:x=y
     .subst hyx
      rw[hox]at ho;cases ho
      exact getD_set_true (hall e he hb)
     .rw [getD_set_ne false hyx]at hy
      exact getD_set_true (hcl y hy o ho e he hb)
    .simp only[List.length_append,List.length_cons]at hle ⊢
     omega
   unfold wpOpIn
   rw[hox]
   dsimp only
   split
   .rename_i hw;rw[if_pos hw]at step;exact step
   .rename_i hw;rw[if_neg hw]at step;exact⟨fun _ _=>trivial,step⟩
theorem zBo{env:Env}(henv:zau P env){envR:zbd}(henvR:zaR P envR){rs:List Nat}(hm:P.follows .mixedOrders=true){id:Nat}{ops:Array Oper}{Q:Exit->S->Prop}{ps:List Prop}
 (hk:zjL ops rs s'.sl=true) (hb:zhl ops=true)
 (h:yn P env envR C.nt ops rs (List.range ops.size) s=some (s',ps)) (hp:All ps) (hq:Q .normal s'):T P C (.region id ops true) s Q:=by
 intro a w hs
 refine wpIn_region_any hm ?_
 refine zGU henv henvR hk (fun a' w' hs'=>⟨s',hq,hs'⟩) ops.size _ (List.range ops.size) s ps a _ (by simp) (fun i=>?_) List.pairwise_lt_range ?_ (by simp) h hp hs.drew (zfv hb)
 .simp only[List.mem_range]
  constructor
  .intro hi;exact⟨hi,by simp[hi]⟩
  .exact fun h=>h.1
 .intro x hx
  exfalso
  simp only[lsF]at hx
  rw[Array.getD_eq_getD_getElem?,Array.getElem?_replicate]at hx
  split at hx <;> simp at hx
end Go.Am
/-! An object that nobody writes any more becomes plain data: its cells are held as memory, what points to it as a box. -/
namespace Go.Am
open Go Go.RowKit
variable {P:Program}{C:Ctx}{s s':S}{a a':Act}{w w':World}{γ:Nat->Option G}{M M':Mem}
def AV.pv:AV->PV
 | .p x=>x
 | _=>.bad
def zJA:AV->Bool
 | .p _=>true
 | _=>false
def zAO(id:Nat)(cs:List AV):AV->AV
 | .ref j off=>match Nat.beq j id&&Nat.ble off cs.length with
  | true=>.p (.box (cs.length-off) (fun q=>(cs.getD (off+q) .any).pv))
  | false=>.ref j off
 | x=>x
def frzV(id:Nat)(cs:List AV):AV->AV
 | .clo fn fs xs=>.clo fn (fs.map (zAO id cs)) (xs.map (zAO id cs))
 | x=>zAO id cs x
def zJR(id:Nat)(y:AV):AV->AV
 | .arr j=>match Nat.beq j id with
  | true=>y
  | false=>.arr j
 | x=>x
def zSf(s:S)(id:Nat):Option S:=match s.ob id with
 | some (.larr e true k R)=>some { sl:=fun t=>zJR id (.p (.list k R)) (s.sl t),ob:=upd s.ob id (some (.larr e false k R)),us:=s.us }
 | some (.larr _ false k R)=>some { sl:=fun t=>zJR id (.p (.list k R)) (s.sl t),ob:=s.ob,us:=s.us }
 | some (.cells cs)=>match cs.all zJA with
  | true=>some { sl:=fun t=>frzV id cs (s.sl t),ob:=upd s.ob id none,us:=s.us }
  | false=>none
 | _=>none
def zAN(id:Nat)(y:AV):AV->AV
 | .ref j 0=>match Nat.beq j id with
  | true=>y
  | false=>.ref j 0
 | x=>x
def frzX(id:Nat)(y:AV):AV->AV
 | .clo fn fs xs=>.clo fn (fs.map (zAN id y)) (xs.map (zAN id y))
 | x=>zAN id y x
def zSe(P:Program)(s:S)(id:Nat):Nat->Option S
 | 0=>zSf s id
 | t+1=>match s.ob id,zxQ P 9 t with
  | some (.cells cs),some c=>match cs.all zJA,zT c (cs.map AV.pv)with
   | true,some x=>some { sl:=fun i=>frzX id (.p (.box (wid c) (cell c x))) (s.sl i),ob:=upd s.ob id none,us:=s.us }
   | _,_=>none
  | _,_=>none
def zOU(P:Program)(s:S):List Nat->Option S
 | i::t::r=>match zSe P s i t with
  | some s1=>zOU P s1 r
  | none=>none
 | _=>some s
theorem zBs{id:Nat}{o:AObj}(hM:MLe M M')(hb:∀ g,γ id=some g->∀ b,g.blk=some b->∀ q,M' b q=M b q)(h:OM γ M w id o):OM γ M' w id o:=by
 cases o with
 | cells cs=>
  obtain⟨b,vs,e,h1,h2,h3,h4,h5⟩:=h
  exact⟨b,vs,e,h1,h2,h3,fun j hj=>⟨((h4 j hj).1).mono (fun _ _ hx=>hx) hM,(h4 j hj).2⟩,fun q=>by rw[hb _ h1 b rfl q];exact h5 q⟩
 | barr e mu l=>
  obtain⟨x,cap,h1,h2⟩:=h
  refine⟨x,cap,h1,h2.own,h2.one,h2.len,fun g hg=>?_⟩
  have:=h2.mem g hg
  have hq:=hb _ h1 g hg
  cases mu with
  | true=>intro q;rw[hq q];exact this q
  | false=>intro q;rw[hq q];exact this q
 | larr e mu k R=>
  obtain⟨x,cap,vs,h1,h0,h2⟩:=h
  refine⟨x,cap,vs,h1,fun i j hi hj=>?_,h2.own,h2.one,h2.len,fun g hg=>?_⟩
  .obtain ⟨v,hv,hr⟩:=h0 i j hi hj
   exact⟨v,hv,hr.mono hM⟩
  .have:=h2.mem g hg
   have hq:=hb _ h1 g hg
   cases mu with
   | true=>intro q;rw[hq q];exact this q
   | false=>intro q;rw[hq q];exact this q
 | bcv e l=>
  obtain⟨g,cur,h1,h2,h3,h4,h5,h6⟩:=h
  exact⟨g,cur,h1,h2,h3,h4,h5,fun q=>by rw[hb _ h1 g rfl q];exact h6 q⟩
 | bldr T x=>
  obtain⟨b,v0,v1,h1,h2,h3,h4,h5,h6⟩:=h
  exact⟨b,v0,v1,h1,h2,h3,h4.mono (fun _ _ hx=>hx) hM,h5,fun q=>by rw[hb _ h1 b rfl q];exact h6 q⟩
 | raw o=>
  obtain⟨b,h1,h2,h3⟩:=h
  exact⟨b,h1,h2,fun q=>by rw[hb _ h1 b rfl q];exact h3 q⟩
 | mp e l=>
  obtain⟨b,es,cl,h1,h2,h3,h4⟩:=h
  exact⟨b,es,cl,h1,h2,h3.mono hM,fun q=>by rw[hb _ h1 b rfl q];exact h4 q⟩
theorem zxB{id b:Nat}{cs:List AV}{vs:Array Value}(hγ:γ id=some (.cell b))(hM:MLe M M')(hb:∀ q,M' b q=vs[q]?)(hsz:vs.size=cs.length)
 (hcs:∀ j,j<cs.length->zR M' (cs.getD j .any).pv (vs.getD j undef)) {x:AV} {v:Value} (h:zp γ M x v):zp γ M' (zAO id cs x) v:=by
 have hm:zp γ M' x v:=h.mono (fun _ _ hx=>hx) hM
 cases x with
 | ref j off=>
  simp only[zAO]
  cases hc:Nat.beq j id&&Nat.ble off cs.length with
  | false=>exact hm
  | true=>
   rw[Bool.and_eq_true]at hc
   have hj:=Nat.eq_of_beq_eq_true hc.1
   subst hj
   have ho:=Nat.le_of_ble_eq_true hc.2
   obtain⟨b',h1,rfl⟩:=h.ref_inv
   rw[hγ]at h1;cases h1
   refine .p _ _ (.box _ _ b off (fun q=>vs.getD (off+q) undef) (fun q hq=>?_) (fun q hq=>hcs _ (by omega)))
   have hlt:off+q<vs.size:=by omega
   rw[hb,Array.getElem?_eq_getElem hlt,Array.getD_eq_getD_getElem?,Array.getElem?_eq_getElem hlt];rfl
 | _=>exact hm
theorem zJO{id b:Nat}{cs:List AV}{vs:Array Value}(hγ:γ id=some (.cell b))(hM:MLe M M')(hb:∀ q,M' b q=vs[q]?)(hsz:vs.size=cs.length)
 (hcs:∀ j,j<cs.length->zR M' (cs.getD j .any).pv (vs.getD j undef)) {x:AV} {v:Value} (h:zp γ M x v):zp γ M' (frzV id cs x) v:=by
 cases x with
 | clo fn fs xs=>
  cases h with
  | clo _ _ _ vf vc hf hc h1 h2=>
   have key:∀ (l:List AV) (ws:Array Value),(∀ i,i<l.length->zp γ M (l.getD i .any) (ws.getD i undef))->∀ i,i<(l.map (zAO id cs)).length->zp γ M' ((l.map (zAO id cs)).getD i .any) (ws.getD i undef):=by
    intro l ws hl i hi
    have hi':i<l.length:=by simpa using hi
    have:=zxB hγ hM hb hsz hcs (hl i hi')
    rw[List.getD_eq_getElem?_getD,List.getElem?_eq_getElem hi']at this
    rw[List.getD_eq_getElem?_getD,List.getElem?_map,List.getElem?_eq_getElem hi']
    exact this
   exact .clo fn _ _ vf vc (by simpa using hf) (by simpa using hc) (key fs vf h1) (key xs vc h2)
 | _=>exact zxB hγ hM hb hsz hcs h
theorem zxA{id k:Nat}{e:TypeId}{R:Rows}(ho:s.ob id=some (.larr e false k R)):Sub C s { sl:=fun t=>zJR id (.p (.list k R)) (s.sl t),ob:=s.ob,us:=s.us }:=by
 rintro a w ⟨γ,M,hs⟩
 refine⟨γ,M,fun t=>?_,hs.ob,hs.us,hs.sep,hs.lo,hs.mem,hs.le,hs.new,hs.fr,hs.df,hs.nt,hs.gl⟩
 have hx:=hs.sl t
 show zp γ M (zJR id _ (s.sl t)) _
 generalize s.sl t=x at hx
 cases x with
 | arr j=>
  simp only[zJR]
  cases hc:Nat.beq j id with
  | false=>exact hx
  | true=>
   have hj:=Nat.eq_of_beq_eq_true hc
   subst hj
   have hp:=(zai hs (x:=.arr j) (z:=.p (.list k R)) (by simp only[zbV,ho]) hx).p_inv
   exact .p _ _ hp
 | _=>exact hx
theorem zFQ{id k:Nat}{e:TypeId}{R:Rows}(ho:s.ob id=some (.larr e true k R)):Sub C s { sl:=s.sl,ob:=upd s.ob id (some (.larr e false k R)),us:=s.us }:=by
 rintro a w ⟨γ,M,hs⟩
 obtain⟨ad,cap,vs,h1,h2,hA⟩:=hs.ob id _ ho
 let M':Mem:=fun b q=>if ad=some b then vs[q]? else M b q
 have hnone:∀ b,ad=some b->∀ q,M b q=none:=fun b hb=>hA.mem b hb
 have hle:MLe M M':=by
  intro b q v hv
  show(if ad=some b then vs[q]? else M b q)=some v
  by_cases hb:ad=some b
  .rw [hnone b hb q]at hv;cases hv
  .rw [if_neg hb];exact hv
 have hne:∀ b,ad≠some b->∀ q,M' b q=M b q:=fun b hb q=>if_neg hb
 have hsub:∀ k',upd s.ob id (some (AObj.larr e false k R)) k'≠none->s.ob k'≠none:=by
  intro k' hk
  by_cases hid:k'=id
  .subst hid;rw[ho];exact fun h=>by cases h
  .rw [zC _ _ hid]at hk;exact hk
 refine⟨γ,M',fun t=>(hs.sl t).mono (fun _ _ hx=>hx) hle,?_,hs.us,?_,?_,?_,hs.le.trans hle,?_,hs.fr,hs.df,hs.nt,hs.gl⟩
 .intro i o hi
  have hi:upd s.ob id (some (AObj.larr e false k R)) i=some o:=hi
  by_cases hid:i=id
  .subst hid
   rw[zw]at hi;cases hi
   refine⟨ad,cap,vs,h1,fun i j hi hj=>?_,hA.own,hA.one,hA.len,fun g hg q=>if_pos hg⟩
   obtain⟨v,hv,hr⟩:=h2 i j hi hj
   exact⟨v,hv,hr.mono hle⟩
  .rw [zC _ _ hid]at hi
   refine zBs hle (fun g hg b' hb' q=>hne b' (fun hbb=>?_) q) (hs.ob i o hi)
   exact hid (hs.sep i id g _ b' (by rw[hi];exact fun h=>by cases h) (by rw[ho];exact fun h=>by cases h) hg h1 hb' hbb)
 .intro i j g g' b' hi hj
  exact hs.sep i j g g' b' (hsub i hi) (hsub j hj)
 .intro i g b' hi
  exact hs.lo i g b' (hsub i hi)
 .refine ⟨?_,hs.mem.good.mono hle⟩
  intro b' q v hv
  have hv:(if ad=some b' then vs[q]? else M b' q)=some v:=hv
  by_cases hb:ad=some b'
  .rw [if_pos hb]at hv
   rcases hA.own.2 with⟨hv0,hn0⟩|⟨g',cap',cur,hv0,_,hh,_,_,_,htk⟩
   .rw [hb]at hv0;simp[yX]at hv0
   .rw [hb]at hv0
    simp only[yX,Option.map_some,Value.slice.injEq,Option.some.injEq,Addr.mk.injEq]at hv0
    obtain⟨⟨hg,_,_⟩,_,_⟩:=hv0
    rw[<-htk]at hv
    have hq:cur[q]?=some v:=by
     rw[List.getElem?_take]at hv
     split at hv
     .simpa using hv
     .cases hv
    subst hg
    simp[World.cell?,hh,hq]
  .rw [if_neg hb]at hv;exact hs.mem b' q v hv
 .intro b' hb1 hb2
  funext q
  by_cases hb:ad=some b'
  .have:=hs.lo id _ b' (by rw[ho];exact fun h=>by cases h) h1 hb
   rcases this.1 with h6|h6
   .omega
   .exact absurd h6 hb2
  .rw [hne b' hb q,hs.new b' hb1 hb2]
theorem zJQ{id:Nat}(h:zSf s id=some s'):Sub C s s':=by
 unfold zSf at h
 cases ho:s.ob id with
 | none=>rw[ho]at h;cases h
 | some o=>
  rw[ho]at h
  cases o with
  | cells cs=>
   dsimp only at h
   cases hall:cs.all zJA with
   | false=>rw[hall]at h;cases h
   | true=>
    rw[hall]at h
    cases h
    rintro a w ⟨γ,M,hs⟩
    obtain⟨b,vs,e,h1,h2,h3,h4,h5⟩:=hs.ob id _ ho
    let M':Mem:=fun b' q=>if b'=b then vs[q]? else M b' q
    have hle:MLe M M':=by
     intro b' q v hv
     show(if b'=b then vs[q]? else M b' q)=some v
     by_cases hb:b'=b
     .subst hb;rw[h5 q]at hv;cases hv
     .rw [if_neg hb];exact hv
    have hbq:∀ q,M' b q=vs[q]?:=fun q=>if_pos rfl
    have hne:∀ b',b'≠b->∀ q,M' b' q=M b' q:=fun b' hb q=>if_neg hb
    have hcs:∀ j,j<cs.length->zR M' (cs.getD j .any).pv (vs.getD j undef):=by
     intro j hj
     have h6:=(h4 j hj).1
     have h7:zJA (cs.getD j .any)=true:=by
      rw[List.getD_eq_getElem?_getD,List.getElem?_eq_getElem hj]
      exact(List.all_eq_true.1 hall) _ (List.getElem_mem hj)
     generalize cs.getD j .any=y at h6 h7
     cases y with
     | p x=>exact h6.p_inv.mono hle
     | _=>cases h7
    refine⟨γ,M',fun t=>zJO h1 hle hbq h3 hcs (hs.sl t),?_,hs.us,?_,?_,?_,hs.le.trans hle,?_,hs.fr,hs.df,hs.nt,hs.gl⟩
    .intro i o hi
     by_cases hid:i=id
     .subst hid
      have hi:upd s.ob i none i=some o:=hi
      rw[zw]at hi;cases hi
     .have hi:upd s.ob id none i=some o:=hi
      rw[zC _ _ hid]at hi
      refine zBs hle (fun g hg b' hb' q=>hne b' (fun hbb=>?_) q) (hs.ob i o hi)
      subst hbb
      exact hid (hs.sep i id g _ _ (by rw[hi];exact fun h=>by cases h) (by rw[ho];exact fun h=>by cases h) hg h1 hb' rfl)
    .intro i j g g' b' hi hj
     have hsub:∀ k,upd s.ob id none k≠none->s.ob k≠none:=by
      intro k hk
      by_cases hid:k=id
      .subst hid;rw[zw]at hk;exact absurd rfl hk
      .rw [zC _ _ hid]at hk;exact hk
     exact hs.sep i j g g' b' (hsub i hi) (hsub j hj)
    .intro i g b' hi
     refine hs.lo i g b' ?_
     have hi:upd s.ob id none i≠none:=hi
     by_cases hid:i=id
     .subst hid;rw[zw]at hi;exact absurd rfl hi
     .rw [zC _ _ hid]at hi;exact hi
    .refine ⟨?_,hs.mem.good.mono hle⟩
     intro b' q v hv
     have hv:(if b'=b then vs[q]? else M b' q)=some v:=hv
     by_cases hb:b'=b
     .subst hb
      rw[if_pos rfl]at hv
      simp[World.cell?,h2,hv]
     .rw [if_neg hb]at hv;exact hs.mem b' q v hv
    .intro b' hb1 hb2
     funext q
     by_cases hb:b'=b
     .subst hb
      have:=hs.lo id _ b' (by rw[ho];exact fun h=>by cases h) h1 rfl
      rcases this.1 with h6|h6
      .omega
      .exact absurd h6 hb2
     .rw [hne b' hb q,hs.new b' hb1 hb2]
  | larr e mu k R=>
   cases mu with
   | true=>
    cases h
    exact fun a w hs=>zxA (s:={ sl:=s.sl,ob:=upd s.ob id (some (.larr e false k R)),us:=s.us }) (id:=id) (zw _ _ _) a w (zFQ ho a w hs)
   | false=>
    cases h
    exact zxA ho
  | _=>cases h
theorem zxy{id:Nat}{y:AV}{b:Nat}(hγ:γ id=some (.cell b))(hM:MLe M M')(hy:zp γ M' y (.pointer (some ⟨b,0,none⟩))){x:AV}{v:Value}(h:zp γ M x v):zp γ M' (zAN id y x) v:=by
 have hm:zp γ M' x v:=h.mono (fun _ _ hx=>hx) hM
 cases x with
 | ref j off=>
  cases off with
  | zero=>
   simp only[zAN]
   cases hc:Nat.beq j id with
   | false=>exact hm
   | true=>
    have hj:=Nat.eq_of_beq_eq_true hc
    subst hj
    obtain⟨b',h1,rfl⟩:=h.ref_inv
    rw[hγ]at h1;cases h1
    exact hy
  | succ off=>exact hm
 | _=>exact hm
theorem zJN{id:Nat}{y:AV}{b:Nat}(hγ:γ id=some (.cell b))(hM:MLe M M')(hy:zp γ M' y (.pointer (some ⟨b,0,none⟩))){x:AV}{v:Value}(h:zp γ M x v):zp γ M' (frzX id y x) v:=by
 cases x with
 | clo fn fs xs=>
  cases h with
  | clo _ _ _ vf vc hf hc h1 h2=>
   have key:∀ (l:List AV) (ws:Array Value),(∀ i,i<l.length->zp γ M (l.getD i .any) (ws.getD i undef))->∀ i,i<(l.map (zAN id y)).length->zp γ M' ((l.map (zAN id y)).getD i .any) (ws.getD i undef):=by
    intro l ws hl i hi
    have hi':i<l.length:=by simpa using hi
    have:=zxy hγ hM hy (hl i hi')
    rw[List.getD_eq_getElem?_getD,List.getElem?_eq_getElem hi']at this
    rw[List.getD_eq_getElem?_getD,List.getElem?_map,List.getElem?_eq_getElem hi']
    exact this
   exact .clo fn _ _ vf vc (by simpa using hf) (by simpa using hc) (key fs vf h1) (key xs vc h2)
 | _=>exact zxy hγ hM hy h
theorem zAL{id b:Nat}{cs:List AV}{vs:Array Value}{e:TypeId}{a:Act}{w:World}(hs:StG C γ M s a w)(ho:s.ob id=some (.cells cs))(h1:γ id=some (.cell b))(h2:w.heap[b]?=some (.cells vs e (0,0)))(h5:∀ q,M b q=none)
 {sl':Nat->AV} (hsl:∀ M':Mem,MLe M M'->(∀ q,M' b q=vs[q]?)->∀ t,zp γ M' (sl' t) (a.tmps.getD t undef)):St C { sl:=sl',ob:=upd s.ob id none,us:=s.us } a w:=by
 let M':Mem:=fun b' q=>if b'=b then vs[q]? else M b' q
 have hle:MLe M M':=by
  intro b' q v hv
  show(if b'=b then vs[q]? else M b' q)=some v
  by_cases hb:b'=b
  .subst hb;rw[h5 q]at hv;cases hv
  .rw [if_neg hb];exact hv
 have hbq:∀ q,M' b q=vs[q]?:=fun q=>if_pos rfl
 have hne:∀ b',b'≠b->∀ q,M' b' q=M b' q:=fun b' hb q=>if_neg hb
 refine⟨γ,M',fun t=>hsl M' hle hbq t,?_,hs.us,?_,?_,?_,hs.le.trans hle,?_,hs.fr,hs.df,hs.nt,hs.gl⟩
 .intro i o hi
  by_cases hid:i=id
  .subst hid
   have hi:upd s.ob i none i=some o:=hi
   rw[zw]at hi;cases hi
  .have hi:upd s.ob id none i=some o:=hi
   rw[zC _ _ hid]at hi
   refine zBs hle (fun g hg b' hb' q=>hne b' (fun hbb=>?_) q) (hs.ob i o hi)
   subst hbb
   exact hid (hs.sep i id g _ _ (by rw[hi];exact fun h=>by cases h) (by rw[ho];exact fun h=>by cases h) hg h1 hb' rfl)
 .intro i j g g' b' hi hj
  have hsub:∀ k,upd s.ob id none k≠none->s.ob k≠none:=by
   intro k hk
   by_cases hid:k=id
   .subst hid;rw[zw]at hk;exact absurd rfl hk
   .rw [zC _ _ hid]at hk;exact hk
  exact hs.sep i j g g' b' (hsub i hi) (hsub j hj)
 .intro i g b' hi
  refine hs.lo i g b' ?_
  have hi:upd s.ob id none i≠none:=hi
  by_cases hid:i=id
  .subst hid;rw[zw]at hi;exact absurd rfl hi
  .rw [zC _ _ hid]at hi;exact hi
 .refine ⟨?_,hs.mem.good.mono hle⟩
  intro b' q v hv
  have hv:(if b'=b then vs[q]? else M b' q)=some v:=hv
  by_cases hb:b'=b
  .subst hb
   rw[if_pos rfl]at hv
   simp[World.cell?,h2,hv]
  .rw [if_neg hb]at hv;exact hs.mem b' q v hv
 .intro b' hb1 hb2
  funext q
  by_cases hb:b'=b
  .subst hb
   have:=hs.lo id _ b' (by rw[ho];exact fun h=>by cases h) h1 rfl
   rcases this.1 with h6|h6
   .omega
   .exact absurd h6 hb2
  .rw [hne b' hb q,hs.new b' hb1 hb2]
theorem zJP{id t:Nat}(h:zSe P s id t=some s'):Sub C s s':=by
 cases t with
 | zero=>exact zJQ h
 | succ t=>
  simp only[zSe]at h
  split at h
  .rename_i cs c ho hc
   split at h
   .rename_i x hall hx
    cases h
    rintro a w ⟨γ,M,hs⟩
    obtain⟨b,vs,e,h1,h2,h3,h4,h5⟩:=hs.ob id _ ho
    refine zAL hs ho h1 h2 h5 fun M' hle hbq i=>?_
    refine zJN h1 hle (.p _ _ ?_) (hs.sl i)
    obtain⟨hw,hcell⟩:=zdj (M:=M') hx
    refine .box _ _ b 0 (fun j=>vs.getD j undef) (fun j hj=>?_) (fun j hj=>hcell j hj _ ?_)
    .have hlt:j<vs.size:=by rw[h3];rw[List.length_map]at hw;omega
     rw[Nat.zero_add,hbq,Array.getElem?_eq_getElem hlt,Array.getD_eq_getD_getElem?,Array.getElem?_eq_getElem hlt];rfl
    .have hjl:j<cs.length:=by rw[List.length_map]at hw;omega
     have h6:=(h4 j hjl).1
     have h7:zJA (cs.getD j .any)=true:=by
      rw[List.getD_eq_getElem?_getD,List.getElem?_eq_getElem hjl]
      exact(List.all_eq_true.1 hall) _ (List.getElem_mem hjl)
     have e1:(cs.map AV.pv).getD j .bad=(cs.getD j .any).pv:=by
      rw[List.getD_eq_getElem?_getD,List.getD_eq_getElem?_getD,List.getElem?_map,List.getElem?_eq_getElem hjl];rfl
     rw[e1]
     generalize cs.getD j .any=y at h6 h7
     cases y with
     | p z=>exact h6.p_inv.mono hle
     | _=>cases h7
   .cases h
  .cases h
theorem zxz:∀ {l:List Nat} {s s':S},zOU P s l=some s'->Sub C s s'
 | [],s,s',h=>by cases h;exact Sub.refl s
 | [_],s,s',h=>by cases h;exact Sub.refl s
 | i::t::r,s,s',h=>by
  simp only[zOU]at h
  split at h
  .rename_i s1 h1
   exact fun a w hs=>zxz h a w (zJP h1 a w hs)
  .cases h
end Go.Am
/-! A function's body, run over states: one computation, proved sound once. -/
namespace Go.Am
open Go Go.RowKit
variable {P:Program}{γ γ':Nat->Option G}{M M':Mem}{C:Ctx}{s s':S}{a a':Act}{w w':World}
inductive Src where
 | slot (t:Nat)
 | cell (id ix:Nat)
 | fix (id:Nat)
 | comp (t q:Nat)
structure Own where
 src:Src
 new:Nat
 emp:AObj
structure Cut where
 slots:List Nat
 own:List Own
def zRv(s:S)(rn:Rn):Src->AV
 | .slot t=>s.sl t
 | .cell id ix=>match zOD s (zY rn id)with
  | some (.cells cs)=>cs.getD ix .any
  | some (.bldr _ a)=>a
  | _=>.any
 | .fix id=>.arr id
 | .comp t q=>match s.sl t with
  | .agg cs=>cs.getD q .any
  | .tup cs=>cs.getD q .any
  | .clo _ fs cs=>(fs++cs).getD q .any
  | _=>.any
def zTy:AV->Option (Option Nat)
 | .arr old=>some (some old)
 | .ref old _=>some (some old)
 | .mref old=>some (some old)
 | .p .nil=>some none
 | _=>none
def zpb(s:S):Rn->List Own->Option Rn
 | rn,[]=>some rn
 | rn,o::r=>match zTy (zRv s rn o.src)with
  | some old=>zpb s (rn++[(o.new,old)]) r
  | none=>none
def zuQ:Rn->Rn
 | []=>[]
 | (i,some j)::r=>(j,some i)::zuQ r
 | (_,none)::r=>zuQ r
def zgZ(own:List Own)(t:Nat):Option Nat:=
 match own with
 | []=>none
 | o::r=>match o.src with
  | .slot t'=>match Nat.beq t t' with|true=>some o.new|false=>zgZ r t
  | _=>zgZ r t
def zhj(own:List Own)(id ix:Nat):Option Nat:=
 match own with
 | []=>none
 | o::r=>match o.src with
  | .cell id' ix'=>match Nat.beq id id'&&Nat.beq ix ix' with|true=>some o.new|false=>zhj r id ix
  | _=>zhj r id ix
def zju:AV->Bool
 | .p .nil=>true
 | _=>false
def zmI(fw:Rn)(nm:Option Nat)(x:AV):AV:=
 match nm,zju x with
 | some id,true=>.arr id
 | _,_=>zhS fw x
def okA(rn fw:Rn)(nm:Option Nat)(x:AV):Bool:=
 match nm,zju x with
 | some id,true=>(zY rn id).isNone&&(zm id rn).isSome
 | _,_=>zon fw x
theorem zjt{x:AV}(h:zju x=true):x=.p .nil:=by
 unfold zju at h;split at h
 .rfl
 .cases h
section
variable {rn fw:Rn}{ids:List (Nat×Nat)}(hinv:∀ i j,zY fw j=some i->zY rn i=some j/\(zm i ids).isSome=true)(hk:∀ i,(zm i ids).isSome=(zm i rn).isSome)
include hinv hk
theorem zjO{nm:Option Nat}{x:AV}(h:okA rn fw nm x=true):zbF (zY rn) x (zmI fw nm x)/\zcN ids (zmI fw nm x):=by
 unfold okA at h
 unfold zmI
 split at h
 .rename_i hn
  rw[Bool.and_eq_true]at h
  rw[zjt hn]
  exact⟨.nil _ (by cases hr:zY rn _ with|none=>rfl|some _=>rw[hr]at h;cases h.1),.arr _ (by rw[hk];exact h.2)⟩
 .exact zp0 hinv h
end
abbrev Dm:=Option (Nat×Ec)
def dmPV:Nat×Ec->PV:=fun q=>.list q.1 (.dat q.2 [])
def zxY(dm:Dm)(y:AV):AV:=
 match dm,zju y with
 | some q,true=>.p (dmPV q)
 | _,_=>y
theorem zPI{ren:Nat->Option Nat}{x:AV}{q:PV}(hq:∀ M v,zR M .nil v->zR M q v)(h:zbF ren x (.p .nil)):zbF ren x (.p q):=by
 generalize hy:(AV.p PV.nil)=y at h
 cases h <;> first
  | cases hy;exact .pv _ _ hq
  | (cases hy;rename_i h;exact .pv _ _ fun M v hv=>hq M v (h M v hv))
  | cases hy
theorem covD{ren:Nat->Option Nat}{ids:List (Nat×Nat)}{x y:AV}{dm:Dm}(h:zbF ren x y/\zcN ids y):zbF ren x (zxY dm y)/\zcN ids (zxY dm y):=by
 unfold zxY
 split
 .rename_i q hy
  rw[zjt hy]at h
  exact⟨zPI (fun M v hv=>by cases hv;exact .listNil _ _ rfl) h.1,.p _⟩
 .exact h
def zxU:Nat:=9000000000000
def zh0:List Own->List Own
 | []=>[]
 | o::r=>match Nat.ble zxU o.new with|true=>zh0 r|false=>o::zh0 r
def zA9(own:List Own)(id ix:Nat):Dm:=
 match own with
 | []=>none
 | o::r=>match o.src,Nat.ble zxU o.new,o.emp with
  | .cell id' ix',true,.larr _ _ k (.dat c _)=>match Nat.beq id id'&&Nat.beq ix ix' with|true=>some (k,c)|false=>zA9 r id ix
  | _,_,_=>zA9 r id ix
def zs8(fw:Rn)(nm:Nat->Option Nat)(dm:Nat->Dm):Nat->List AV->List AV
 | _,[]=>[]
 | i,x::r=>zxY (dm i) (zmI fw (nm i) x)::zs8 fw nm dm (i+1) r
def okL(rn fw:Rn)(nm:Nat->Option Nat):Nat->List AV->Bool
 | _,[]=>true
 | i,x::r=>okA rn fw (nm i) x&&okL rn fw nm (i+1) r
theorem zhi{fw:Rn}{nm:Nat->Option Nat}{dm:Nat->Dm}:∀ {i:Nat} {l:List AV},(zs8 fw nm dm i l).length=l.length
 | _,[]=>rfl
 | i,x::r=>by simp only[zs8,List.length_cons,zhi]
theorem zl1{fw:Rn}{nm:Nat->Option Nat}{dm:Nat->Dm}:∀ {l:List AV} {i k:Nat},k<l.length->(zs8 fw nm dm i l).getD k .any=zxY (dm (i+k)) (zmI fw (nm (i+k)) (l.getD k .any))
 | [],i,k,h=>by cases h
 | x::r,i,0,_=>rfl
 | x::r,i,k+1,h=>by
  have:=zl1 (fw:=fw) (nm:=nm) (dm:=dm) (l:=r) (i:=i+1) (k:=k) (by simpa using h)
  simp only[zs8,List.getD_cons_succ,this]
  rw[show i+1+k=i+(k+1) by omega]
theorem zuy{rn fw:Rn}{nm:Nat->Option Nat}:∀ {l:List AV} {i k:Nat},okL rn fw nm i l=true->k<l.length->okA rn fw (nm (i+k)) (l.getD k .any)=true
 | [],i,k,_,h=>by cases h
 | x::r,i,0,h,_=>by simp only[okL,Bool.and_eq_true]at h;exact h.1
 | x::r,i,k+1,h,hk=>by
  simp only[okL,Bool.and_eq_true]at h
  have:=zuy (l:=r) (i:=i+1) (k:=k) h.2 (by simpa using hk)
  simp only[List.getD_cons_succ]
  have e:i+(k+1)=i+1+k:=by omega
  rw[e];exact this
def zDX(rn fw:Rn)(own dt:List Own)(id:Nat):AObj->Option AObj
 | .cells cs=>match okL rn fw (zhj own id) 0 cs with
  | true=>some (.cells (zs8 fw (zhj own id) (zA9 dt id) 0 cs))
  | false=>none
 | .bldr T a=>match okA rn fw (zhj own id 1) a with
  | true=>some (.bldr T (zmI fw (zhj own id 1) a))
  | false=>none
 | o=>some o
def zp5(s:S)(rn0 fw:Rn)(own dt:List Own):Rn->List Own->Option (List (Nat×AObj))
 | [],_=>some []
 | (id,old)::r,os=>
  match (match old with
   | some j=>match s.ob j with
    | some ob=>zDX rn0 fw own dt id ob
    | none=>none
   | none=>match os with
    | o::_=>match zlZ o.emp with|true=>some o.emp|false=>none
    | []=>none)with
  | some ob=>match zp5 s rn0 fw own dt r os.tail with
   | some l=>some ((id,ob)::l)
   | none=>none
  | none=>none
def zdB(s:S)(rn fw:Rn)(own:List Own):List Nat->Option (List (Nat×AV))
 | []=>some []
 | t::r=>match okA rn fw (zgZ own t) (s.sl t)with
  | true=>match zdB s rn fw own r with
   | some l=>some ((t,zmI fw (zgZ own t) (s.sl t))::l)
   | none=>none
  | false=>none
def zKN(fx:List Nat)(rn:Rn):Bool:=fixB fx rn&&(zaQ (zrA rn)&&zaQ (rn.map (·.1)))
def yv(fx:List Nat)(c:Cut)(s:S):Option S:=
 match zpb s [] (zh0 c.own)with
 | some rn=>match zKN fx rn with
  | true=>match zdB s rn (zuQ rn) (zh0 c.own) c.slots with
   | some l=>match zp5 s rn (zuQ rn) (zh0 c.own) c.own rn (zh0 c.own)with
    | some o=>some (mkS l o)
    | none=>none
   | none=>none
  | false=>none
 | none=>none
theorem zpO:∀ {rn:Rn} {i j:Nat},(j,some i) ∈ zuQ rn->(i,some j) ∈ rn
 | [],i,j,h=>by cases h
 | (a,some b)::r,i,j,h=>by
  simp only[zuQ,List.mem_cons]at h
  rcases h with h|h
  .cases h;simp
  .exact List.mem_cons_of_mem _ (zpO h)
 | (a,none)::r,i,j,h=>List.mem_cons_of_mem _ (zpO (rn:=r) h)
theorem zh6{s:S}{rn fw:Rn}{own:List Own}:∀ {ts:List Nat} {l:List (Nat×AV)},zdB s rn fw own ts=some l->
 ∀ p ∈ l,okA rn fw (zgZ own p.1) (s.sl p.1)=true/\p.2=zmI fw (zgZ own p.1) (s.sl p.1)
 | [],l,h,p,hp=>by cases h;cases hp
 | t::r,l,h,p,hp=>by
  simp only[zdB]at h
  split at h
  .rename_i hok
   split at h
   .rename_i l' hl
    cases h
    rcases List.mem_cons.1 hp with e|e
    .subst e;exact⟨hok,rfl⟩
    .exact zh6 hl p e
   .cases h
  .cases h
theorem zmK{s:S}{rn0 fw:Rn}{own dt:List Own}:∀ {rn:Rn} {os:List Own} {o:List (Nat×AObj)},zp5 s rn0 fw own dt rn os=some o->
 o.map (·.1)=rn.map (·.1)/\∀ p ∈ o,∃ old,(p.1,old) ∈ rn/\match old with
  | some j=>∃ ob,s.ob j=some ob/\zDX rn0 fw own dt p.1 ob=some p.2
  | none=>zlZ p.2=true
 | [],os,o,h=>by cases h;exact⟨rfl,fun p hp=>by cases hp⟩
 | (id,old)::r,os,o,h=>by
  simp only[zp5]at h
  split at h
  .rename_i ob hob
   split at h
   .rename_i l hl
    cases h
    obtain⟨h1,h2⟩:=zmK hl
    refine⟨by simp[h1],fun p hp=>?_⟩
    rcases List.mem_cons.1 hp with e|e
    .subst e
     refine⟨old,by simp,?_⟩
     cases old with
     | some j=>
      dsimp only at hob ⊢
      cases ho:s.ob j with
      | none=>rw[ho]at hob;cases hob
      | some ob'=>rw[ho]at hob;exact⟨ob',rfl,hob⟩
     | none=>
      dsimp only at hob ⊢
      cases os with
      | nil=>cases hob
      | cons o _=>
       dsimp only at hob
       split at hob
       .rename_i he;cases hob;exact he
       .cases hob
    .obtain ⟨old',hm,hx⟩:=h2 p e
     exact⟨old',List.mem_cons_of_mem _ hm,hx⟩
   .cases h
  .cases h
theorem zpY{nt:Nat}{fx:List Nat}(hC:zbA C nt fx){c:Cut}{s s':S}(h:yv fx c s=some s'):Sub C s s':=by
 unfold yv at h
 split at h
 .rename_i rn hrn
  split at h
  .rename_i hok
   split at h
   .rename_i l hl
    split at h
    .rename_i o ho
     cases h
     unfold zKN at hok
     simp only[Bool.and_eq_true]at hok
     obtain⟨hfix,hold,hnd⟩:=hok
     obtain⟨hkeys,hob⟩:=zmK ho
     have hids:o.map (·.1)=(yr o).map (·.1):=by simp[yr]
     have hkk:∀ i,(zm i (yr o)).isSome=(zm i rn).isSome:=fun i=>by rw[<-zdx hids i];exact zdx hkeys i
     have hinv:∀ i j,zY (zuQ rn) j=some i->zY rn i=some j/\(zm i (yr o)).isSome=true:=by
      intro i j hr
      have hm:=zpO (zpd hr)
      have hl:=zaE hnd hm
      refine⟨by unfold zY;rw[hl],by rw[hkk,hl];rfl⟩
     have hnd':zaQ ((yr o).map (·.1))=true:=by rw[<-hids,hkeys];exact hnd
     refine zLl (yr o) (zY rn) hids ?_ ?_ (fun i g hg=>?_) (fun i j old hi hj _ _=>zsN hold i j old hi hj)
     .refine zwI fun p hp=>?_
      obtain⟨h1,h2⟩:=zh6 hl p hp
      obtain⟨c1,c2⟩:=zjO hinv hkk h1
      rw[h2];exact⟨c1,c2⟩
     .refine zwI fun p hp=>?_
      obtain⟨old,hm,hx⟩:=hob p hp
      have hl:=zaE hnd hm
      cases old with
      | some j=>
       obtain⟨ob,ho1,hc⟩:=hx
       have hr:zY rn p.1=some j:=by unfold zY;rw[hl]
       rw[hr]
       cases ob with
       | barr e mu l'=>have hc':=Option.some.inj hc;rw[<-hc'];exact⟨trivial,_,ho1,.refl_b _ _ _⟩
       | larr e mu k R=>have hc':=Option.some.inj hc;rw[<-hc'];exact⟨trivial,_,ho1,.larr _ _ _ _⟩
       | bcv e l'=>have hc':=Option.some.inj hc;rw[<-hc'];exact⟨trivial,_,ho1,.bcv _ _⟩
       | raw o'=>have hc':=Option.some.inj hc;rw[<-hc'];exact⟨trivial,_,ho1,.raw _⟩
       | mp e l'=>have hc':=Option.some.inj hc;rw[<-hc'];exact⟨trivial,_,ho1,.mp _ _⟩
       | bldr T x=>
        simp only[zDX]at hc
        split at hc
        .rename_i hokx
         have hc':=Option.some.inj hc
         rw[<-hc']
         exact⟨(zjO hinv hkk hokx).2,_,ho1,.bldr _ _ _ (zjO hinv hkk hokx).1⟩
        .cases hc
       | cells cs=>
        simp only[zDX]at hc
        split at hc
        .rename_i hokl
         simp only[Option.some.injEq]at hc
         rw[<-hc]
         refine⟨fun i hi=>?_,_,ho1,.cells _ _ zhi.symm fun i hi=>?_⟩
         .have hi':i<cs.length:=by rw[zhi]at hi;exact hi
          rw[zl1 hi']
          exact(covD (zjO hinv hkk (zuy hokl hi'))).2
         .have hi':i<cs.length:=by rw[zhi]at hi;exact hi
          rw[zl1 hi']
          exact(covD (zjO hinv hkk (zuy hokl hi'))).1
        .cases hc
      | none=>
       have hr:zY rn p.1=none:=by unfold zY;rw[hl]
       rw[hr]
       have he:zlZ p.2=true:=hx
       refine⟨by cases hp2:p.2 with|cells cs=>rw[hp2]at he;cases he|bldr _ _=>rw[hp2]at he;cases he|_=>exact trivial,fun k hk'=>?_⟩
       have:zm p.1 (yr o)=some (kOf p.2):=zaE hnd' (List.mem_map.2 ⟨p,hp,rfl⟩)
       rw[this]at hk';cases hk'
       exact zmH he
     .have h1:=(List.all_eq_true.1 hfix) i (hC.fx i g hg)
      cases hr:zY rn i with
      | none=>rw[hr]at h1;cases h1
      | some j=>
       rw[hr]at h1
       have:i=j:=Nat.eq_of_beq_eq_true h1
       subst this
       exact⟨rfl,by rw[hkk];exact zg4 (by rw[hr];rfl)⟩
    .cases h
   .cases h
  .cases h
 .cases h
abbrev Ans:=AV×List (Nat×AObj)
abbrev K:=Exit->S->Option Ans
def ze(p:Prop)(x:Option Ans):Option Ans:=@ite _ p (Classical.propDecidable p) x none
theorem zJm{p:Prop}{x:Option Ans}{r:Ans}(h:ze p x=some r):p/\x=some r:=by
 unfold ze at h
 by_cases hp:p
 .rw [if_pos hp]at h;exact⟨hp,h⟩
 .rw [if_neg hp]at h;cases h
theorem yZ{p:Prop}{x:Option Ans}(h:p):ze p x=x:=by unfold ze;rw[if_pos h]
theorem zd{p:Prop}{x r:Option Ans}(h:p)(k:x=r):ze p x=r:=by rw[yZ h,k]
theorem zi{b:Bool}{x y r:Option Ans}(h:b=true)(k:x=r):cond b x y=r:=by rw[h];exact k
theorem zg{b:Bool}{x y r:Option Ans}(h:b=false)(k:y=r):cond b x y=r:=by rw[h];exact k
def zxl:List Prop->Option Ans->Option Ans
 | [],x=>x
 | p::r,x=>ze p (zxl r x)
theorem zg8{x:Option Ans}{r:Ans}:∀ {ps:List Prop},zxl ps x=some r->All ps/\x=some r
 | [],h=>⟨trivial,h⟩
 | p::ps,h=>by
  obtain⟨h1,h2⟩:=zJm h
  obtain⟨h3,h4⟩:=zg8 h2
  exact⟨⟨h1,h3⟩,h4⟩
def ztg(x y:Option Ans):Option Ans:=@ite _ (x=y) (Classical.propDecidable (x=y)) x none
theorem zGW{x y:Option Ans}{r:Ans}(h:ztg x y=some r):x=some r/\y=some r:=by
 unfold ztg at h
 by_cases e:x=y
 .rw [if_pos e]at h;exact⟨h,e ▸ h⟩
 .rw [if_neg e]at h;cases h
theorem zBj(x:Option Ans):ztg x x=x:=by unfold ztg;rw[if_pos rfl]
structure Cfg where
 P:Program
 env:Env
 envR:zbd
 nt:Nat
 fx:List Nat
 cuts:List (List Nat×Cut)
 rs:List (List Nat×List Nat)
def beqL:List Nat->List Nat->Bool
 | [],[]=>true
 | a::r,b::q=>Nat.beq a b&&beqL r q
 | _,_=>false
def zjs{α:Type}(p:List Nat):List (List Nat×α)->Option α
 | []=>none
 | q::r=>match beqL p q.1 with|true=>some q.2|false=>zjs p r
def zDU(G:Cfg)(p:List Nat)(s:S)(next:S->Option Ans):Option Ans:=
 match zjs p G.cuts with
 | none=>next s
 | some c=>match yv G.fx c s with
  | some s'=>next s'
  | none=>none
def zKO(G:Cfg)(p:List Nat)(s:S)(next:S->Option Ans):Option Ans:=
 match zjs (888888::p) G.rs with
 | none=>zDU G p s next
 | some l=>match zOU G.P s l with
  | some s1=>zDU G p s1 next
  | none=>none
def zFS(G:Cfg)(p:List Nat)(next:S->Option Ans)(k:K):K:=fun e s=>
 match e with
 | .normal=>zKO G p s next
 | e=>k e s
theorem zmA{G:Cfg}{p:List Nat}{next:S->Option Ans}{k:K}{s:S}:zFS G p next k .normal s=zKO G p s next:=rfl
def zR3(id:Nat)(k:K):K:=fun e s=>
 match e with
 | .exit i=>match Nat.beq i id with
  | true=>k .normal s
  | false=>k (.exit i) s
 | e=>k e s
def kScp(k:K):K:=fun e s=>
 match e with
 | .goto _=>none
 | e=>k e s
def zan(G:Cfg)(again:List Nat->Code->S->K->Option Ans):List Nat->Code->S->K->Option Ans
 | _,.skip,s,k=>k .normal s
 | _,.label _,s,k=>k .normal s
 | p,.region _ ops d,s,k=>
  match yn G.P G.env G.envR G.nt ops ((zjs p G.rs).getD []) (List.range ops.size) s with
  | some (s',ps)=>match zjs (999999::p) G.rs with
   | none=>match !d||((zjK ops ((zjs p G.rs).getD [])||zjL ops ((zjs p G.rs).getD []) s'.sl)&&zhl ops)with
    | true=>zxl ps (k .normal s')
    | false=>none
   | some (u::v::lB)=>match d&&(zu3 ops ((zjs p G.rs).getD []) u v lB&&zhl ops),yn G.P G.env G.envR G.nt ops ((zjs p G.rs).getD []) lB s with
    | true,some (s2,ps2)=>zxl ps (zxl ps2 (ztg (k .normal s') (k .normal s2)))
    | _,_=>none
   | some _=>none
  | none=>none
 | p,.seq a b,s,k=>zan G again (0::p) a s (zFS G (1::p) (fun s2=>zan G again (1::p) b s2 k) k)
 | p,.cond x a b,s,k=>match aev s.sl x with
  | .p (.bool c)=>cond c (zan G again (0::p) a s k) (zan G again (1::p) b s k)
  | _=>none
 | p,.block id a,s,k=>zan G again (0::p) a s (zR3 id k)
 | p,.loop b,s,k=>zKO G p s (fun s0=>again p b s0 k)
 | p,.scope a,s,k=>zan G again (0::p) a s (kScp k)
 | _,.exit id,s,k=>k (.exit id) s
 | _,.ret,s,k=>k .ret s
 | _,_,_,_=>none
def znx(G:Cfg)(n:Nat):List Nat->Code->S->K->Option Ans:=
 Nat.rec (motive:=fun _=>List Nat->Code->S->K->Option Ans) (fun _ _ _ _=>none)
  (fun _ ih p b s k=>zan G ih (0::p) b s (zFS G p (fun s2=>ih p b s2 k) k)) n
structure zb0(G:Cfg)(P:Program)(C:Ctx):Prop where
 p:G.P=P
 env:zau P G.env
 envR:zaR P G.envR
 ctx:zbA C G.nt G.fx
 mx:P.follows .mixedOrders=true
theorem zs7{G:Cfg}(hG:zb0 G P C){p:List Nat}{s:S}{next:S->Option Ans}{r:Ans}(h:zDU G p s next=some r):∃ s',Sub C s s'/\next s'=some r:=by
 unfold zDU at h
 split at h
 .exact ⟨s,Sub.refl s,h⟩
 .split at h
  .rename_i s' hs;exact⟨s',zpY hG.ctx hs,h⟩
  .cases h
theorem zpZ{G:Cfg}(hG:zb0 G P C){p:List Nat}{s:S}{next:S->Option Ans}{r:Ans}(h:zKO G p s next=some r):∃ s',Sub C s s'/\next s'=some r:=by
 unfold zKO at h
 split at h
 .exact zs7 hG h
 .split at h
  .rename_i s1 h1
   obtain⟨s',h2,h3⟩:=zs7 hG h
   exact⟨s',fun a w hs=>h2 a w (zxz h1 a w hs),h3⟩
  .cases h
theorem zPX{c:Code}{Q:Exit->S->Prop}(h:T P C c s (fun e s'=>match e with|.goto _=>False|e=>Q e s')):T P C (.scope c) s Q:=by
 intro a w hs
 refine zhQ (wpIn_mono (h a w hs) fun e a' w' ⟨s',hq,hs'⟩=>?_)
 cases e <;> first
  | exact hq.elim
  | exact⟨s',hq,hs'⟩
theorem zdr{G:Cfg}(hG:zb0 G P C){again:List Nat->Code->S->K->Option Ans}{r:Ans}
 (hag:∀ (p:List Nat) (b:Code) (s:S) (k:K) (Q:Exit->S->Prop),again p b s k=some r->(∀ e s',k e s'=some r->Q e s')->T P C (.loop b) s Q):
 ∀ (c:Code) (p:List Nat) (s:S) (k:K) (Q:Exit->S->Prop),zan G again p c s k=some r->(∀ e s',k e s'=some r->Q e s')->T P C c s Q:=by
 intro c
 induction c with
 | skip=>intro p s k Q h hk;rw[zan]at h;exact zSP (hk _ _ h)
 | label l=>intro p s k Q h hk;rw[zan]at h;exact zPY (hk _ _ h)
 | region id ops d=>
  intro p s k Q h hk
  rw[zan]at h
  obtain⟨hP,henv,henvR,hctx,hmx⟩:=hG
  subst hP
  have hnt:=hctx.nt
  rw[<-hnt]at h
  split at h
  .rename_i s' ps ha
   split at h
   .split at h
    .rename_i hd
     obtain⟨hp,hx⟩:=zg8 h
     cases d with
     | false=>intro a w hs;exact wpIn_region (zx7 henv henvR _ ha hp hs fun a' w' hs'=>⟨s',hk _ _ hx,hs'⟩)
     | true=>
      simp only[Bool.not_true,Bool.false_or,Bool.and_eq_true,Bool.or_eq_true]at hd
      rcases hd.1 with hd1|hd1
      .exact zBn henv henvR hmx hd1 hd.2 ha hp (hk _ _ hx)
      .exact zBo henv henvR hmx hd1 hd.2 ha hp (hk _ _ hx)
    .cases h
   .split at h
    .rename_i s2 ps2 hd hB
     obtain⟨hp,hx⟩:=zg8 h
     obtain⟨hp2,hx2⟩:=zg8 hx
     obtain⟨h1,h2⟩:=zGW hx2
     simp only[Bool.and_eq_true]at hd
     obtain⟨hd0,hd1,hd2⟩:=hd
     subst hd0
     exact zBp henv henvR hmx hd1 hd2 ha hB hp hp2 (hk _ _ h1) (hk _ _ h2)
    .cases h
   .cases h
  .cases h
 | seq x y ihx ihy=>
  intro p s k Q h hk
  rw[zan]at h
  refine zQP (ihx _ _ _ _ h fun e s' he=>?_)
  cases e <;> first
   | (rw [zmA] at he
      obtain⟨s2,hsub,h2⟩:=zpZ hG he
      exact(ihy _ _ _ _ h2 hk).weaken hsub)
   | exact hk _ _ he
 | cond x y z ihy ihz=>
  intro p s k Q h hk
  rw[zan]at h
  split at h
  .rename_i c hc
   refine zSS hc (fun hb=>?_) (fun hb=>?_)
   .rw [hb]at h;exact ihy _ _ _ _ h hk
   .rw [hb]at h;exact ihz _ _ _ _ h hk
  .cases h
 | block id x ih=>
  intro p s k Q h hk
  rw[zan]at h
  refine zPZ (ih _ _ _ _ h fun e s' he=>?_)
  cases e <;> first
   | exact hk _ _ he
   | (simp only [zR3] at he
      simp only[zvn]
      split at he
      .rename_i hb;rw[if_pos (Nat.eq_of_beq_eq_true hb)];exact hk _ _ he
      .rename_i hb;rw[if_neg (fun e=>by rw[e,Nat.beq_refl]at hb;cases hb)];exact hk _ _ he)
 | loop b _=>
  intro p s k Q h hk
  rw[zan]at h
  obtain⟨s',hsub,h2⟩:=zpZ hG h
  exact(hag _ _ _ _ _ h2 hk).weaken hsub
 | scope x ih=>
  intro p s k Q h hk
  rw[zan]at h
  refine zPX (ih _ _ _ _ h fun e s' he=>?_)
  cases e <;> first
   | exact hk _ _ he
   | cases he
 | exit id=>intro p s k Q h hk;rw[zan]at h;exact zSR (hk _ _ h)
 | ret=>intro p s k Q h hk;rw[zan]at h;exact zQQ (hk _ _ h)
 | rangeFunc f ps x y=>intro p s k Q h hk;rw[zan]at h <;> first|cases h|(intros;contradiction)
 | goto l=>intro p s k Q h hk;rw[zan]at h <;> first|cases h|(intros;contradiction)
 | refuse l=>intro p s k Q h hk;rw[zan]at h <;> first|cases h|(intros;contradiction)
theorem ziE{G:Cfg}(hG:zb0 G P C){r:Ans}:∀ (n:Nat) (p:List Nat) (b:Code) (s:S) (k:K) (Q:Exit->S->Prop),znx G n p b s k=some r->(∀ e s',k e s'=some r->Q e s')->T P C (.loop b) s Q:=by
 intro n
 induction n using Nat.strongRecOn with
 | _ n ih=>
  intro p b s k Q h hk
  refine zSQ (fun m s=>m<=n/\znx G m p b s k=some r) (fun m s ⟨hm,hr⟩=>?_) n ⟨Nat.le_refl _,h⟩
  cases m with
  | zero=>cases hr
  | succ m=>
   have hr':zan G (znx G m) (0::p) b s (zFS G p (fun s2=>znx G m p b s2 k) k)=some r:=hr
   refine zdr hG (fun p' b' s' k' Q'=>ih m (by omega) p' b' s' k' Q') b _ _ _ _ hr' fun e s' he=>?_
   cases e <;> first
    | (rw [zmA] at he
       obtain⟨s2,hsub,h2⟩:=zpZ hG he
       exact⟨m,s2,Nat.lt_succ_self m,⟨by omega,h2⟩,hsub⟩)
    | exact hk _ _ he
def kAt(G:Cfg):Nat->List Nat->List Nat->List Nat->Code->K->K
 | _,_,_,[],_,k=>k
 | F,fs,p,i::r,.seq a b,k=>match i with
  | 0=>kAt G F fs (0::p) r a (zFS G (1::p) (fun s2=>zan G (znx G F) (1::p) b s2 k) k)
  | _=>kAt G F fs (1::p) r b k
 | F,fs,p,i::r,.cond _ a b,k=>match i with
  | 0=>kAt G F fs (0::p) r a k
  | _=>kAt G F fs (1::p) r b k
 | F,fs,p,_::r,.block id a,k=>kAt G F fs (0::p) r a (zR3 id k)
 | _,f::fs,p,_::r,.loop b,k=>kAt G f fs (0::p) r b (zFS G p (fun s2=>znx G f p b s2 k) k)
 | F,fs,p,_::r,.scope a,k=>kAt G F fs (0::p) r a (kScp k)
 | _,_,_,_,_,k=>k
def zQC:Nat->List Nat->Nat
 | F,[]=>F
 | _,f::fs=>zQC f fs
def zR0:Code->Code
 | .loop b=>b
 | c=>c
def zcv(G:Cfg)(c:Code)(k:K)(F:Nat)(fs path:List Nat)(l:List (Nat×AV))(o:List (Nat×AObj)):Option Ans:=
 zan G (znx G (zQC F fs)) path.reverse (at_ c path) (mkS l o) (kAt G F fs [] path c k)
def zcI(G:Cfg)(c:Code)(k:K)(F:Nat)(fs path:List Nat)(f:Nat)(l:List (Nat×AV))(o:List (Nat×AObj)):Option Ans:=
 znx G f path.reverse (zR0 (at_ c path)) (mkS l o) (kAt G F fs [] path c k)
def kP(P:Program)(rs:List ResultVar):K:=fun e s=>
 match e with
 | .normal=>match zbj P s rs with|some r=>some (r,[])|none=>none
 | .ret=>match zbj P s rs with|some r=>some (r,[])|none=>none
 | _=>none
def zZ(s:S):List Nat->Option (List (Nat×AObj))
 | []=>some []
 | i::r=>match s.ob i with
  | some o=>match zZ s r with
   | some l=>some ((i,o)::l)
   | none=>none
  | none=>none
def kRe(P:Program)(fx:List Nat)(c:Cut)(ids:List Nat)(rs:List ResultVar)(s:S):Option Ans:=
 match yv fx c s with
 | some s'=>match zeQ P s' rs with
  | some r=>match zZ s' ids with
   | some l=>some (r,l)
   | none=>none
  | none=>none
 | none=>none
def kR(P:Program)(fx:List Nat)(c:Cut)(ids:List Nat)(rs:List ResultVar):K:=fun e s=>
 match e with
 | .normal=>kRe P fx c ids rs s
 | .ret=>kRe P fx c ids rs s
 | _=>none
def zF(G:Cfg)(fn:Func)(F:Nat)(args:List AV):Option Ans:=
 zan G (znx G F) [] (yw fn) (zsu args) (kP G.P fn.results.toList)
def zam(G:Cfg)(fn:Func)(c:Cut)(ids:List Nat)(F:Nat)(args:List AV)(ib:List (Nat×AObj)):Option Ans:=
 zan G (znx G F) [] (yw fn) (zun args ib) (kR G.P G.fx c ids fn.results.toList)
theorem zQj{f:FuncId}{fn:Func}{args:List AV}{r:AV}(G:Cfg)(F:Nat)(hp:G.P=P)(henv:zau P G.env)(henvR:zaR P G.envR)(hmx:P.follows .mixedOrders=true)
 (hf:P.funcs[f]?=some fn) (hb:(fn.body.isSome,Nat.ble args.length fn.ntmps,Nat.beq G.nt fn.ntmps)=(true,true,true)) (hfx:G.fx=[])
 (h:(∃ M vs,zB γ0 M args vs)->zF G fn F args=some (r,[])):FnP P f args r:=by
 simp only[Prod.mk.injEq]at hb
 refine zj5 hf (by rw[hb.1,hb.2.1]) fun M vs hvs C hC=>?_
 have hG:zb0 G P C:=⟨hp,henv,henvR,⟨hC.nt.trans (Nat.eq_of_beq_eq_true hb.2.2).symm,by rw[hfx];exact hC.fx⟩,hmx⟩
 rw[zl3]
 refine zdr hG (fun p b s k Q=>ziE hG F p b s k Q) _ _ _ _ _ (h ⟨M,vs,hvs⟩) fun e s' he=>?_
 subst hp
 cases e <;> first
  | cases he
  | (simp only [kP] at he
     split at he
     .rename_i r' hr;cases he;exact⟨s',Sub.refl s',hr⟩
     .cases he)
theorem zsG{s:S}:∀ {ids:List Nat} {l:List (Nat×AObj)},zZ s ids=some l->zdY s l
 | [],l,h=>by cases h;rfl
 | i::r,l,h=>by
  simp only[zZ]at h
  split at h
  .rename_i o ho
   split at h
   .rename_i l' hl
    cases h
    have:=zsG hl
    unfold zdY at this ⊢
    simp only[List.map_cons,ho,this]
   .cases h
  .cases h
theorem zQi{f:FuncId}{fn:Func}{args:List AV}{ib:List (Nat×AObj)}{kept:List Nat}{r:AV}{os:List (Nat×AObj)}(G:Cfg)(c:Cut)(ids:List Nat)(F:Nat)(hp:G.P=P)(henv:zau P G.env)(henvR:zaR P G.envR)(hmx:P.follows .mixedOrders=true)
 (hf:P.funcs[f]?=some fn) (hb:(fn.body.isSome,Nat.ble args.length fn.ntmps,Nat.beq G.nt fn.ntmps)=(true,true,true)) (hfx:G.fx=kept)
 (h:(∃ γ M w vs,zB γ M args vs/\zhW γ M w (fun i=>zm i ib) (fun b=>b<w.heap.size))->zam G fn c ids F args ib=some (r,os)):FnR P f args ib kept r os:=by
 simp only[Prod.mk.injEq]at hb
 refine zMv hf (by rw[hb.1,hb.2.1]) fun γ M w vs hvs hO C hC=>?_
 have hG:zb0 G P C:=⟨hp,henv,henvR,⟨hC.nt.trans (Nat.eq_of_beq_eq_true hb.2.2).symm,by rw[hfx];exact hC.fx⟩,hmx⟩
 rw[zl3]
 refine zdr hG (fun p b s k Q=>ziE hG F p b s k Q) _ _ _ _ _ (h ⟨γ,M,w,vs,hvs,hO⟩) fun e s' he=>?_
 subst hp
 have fin:kRe G.P G.fx c ids fn.results.toList s'=some (r,os)->∃ s2,Sub C s' s2/\zeQ G.P s2 fn.results.toList=some r/\zdY s2 os:=by
  intro he
  unfold kRe at he
  split at he
  .rename_i s2 hs2
   split at he
   .rename_i r' hr
    split at he
    .rename_i l hl
     cases he
     exact⟨s2,zpY hG.ctx hs2,hr,zsG hl⟩
    .cases he
   .cases he
  .cases he
 cases e <;> first
  | cases he
  | exact fin he
end Go.Am
