/-
  The abstract machine of these proofs.
-/
import Derived.Test.YtampckbjinodgaaGreatDoorAmA
set_option linter.unusedVariables false
noncomputable section
namespace Go.Am
open Go Go.RowKit
variable {P:Program}{γ γ':Nat->Option G}{M M':Mem}{C:Ctx}{s s':S}{a a':Act}{w w':World}
theorem zx2{t b:Nat}(h:ziS P t=some b):∃ i,P.info? t=some i/\i.bytes=b:=by
 unfold ziS at h
 cases hi:P.info? t with
 | none=>rw[hi]at h;cases h
 | some i=>rw[hi]at h;injection h with h;exact⟨i,rfl,h⟩
theorem ziC{t b:Nat}(h:zaH P t=some b):∃ i,P.info? t=some i/\i.size=b:=by
 unfold zaH at h
 cases hi:P.info? t with
 | none=>rw[hi]at h;cases h
 | some i=>rw[hi]at h;injection h with h;exact⟨i,rfl,h⟩
theorem zGI{e k b:Nat}{z:List AV}(h1:zaH P e=some k)(h2:ziS P e=some b)(h3:zf1 P e=some z)(h4:z.length=k):
 ∃ i zv,P.info? e=some i/\i.size=k/\i.bytes=b/\i.zero=some zv/\zv.cells.size=k:=by
 obtain⟨i,hi,hs⟩:=ziC h1
 obtain⟨i2,hi2,hb⟩:=zx2 h2
 obtain⟨i3,zv,hi3,hz,_,rfl⟩:=zb2 h3
 rw[hi]at hi2 hi3;cases hi2;cases hi3
 exact⟨i,zv,hi,hs,hb,hz,by simpa using h4⟩
theorem zdh(M:Mem)(w:World)(e:TypeId)(mu:Bool)(k:Nat):zb1 M w e mu k 0 [] none 0:=
 ⟨⟨by simp,.inl ⟨rfl,rfl⟩⟩,(fun v hv=>by cases hv),Nat.zero_le _,(fun g hg=>by cases hg)⟩
theorem zFR{n b:Nat}(h:n*(b+1)<=140737488355328):n<=maxLen:=by
 have:n*1<=n*(b+1):=Nat.mul_le_mul_left n (by omega)
 unfold maxLen;omega
theorem zeb(hs:StG C γ M s a w){d:Nat}(hd:yL C.nt (some d)=true)(hu:s.us d=false){t tx ty e k b:Nat}{z:List AV}(ht:zdn P t=some e)
 (h1:zaH P e=some (k+1)) (h2:ziS P e=some (b+1)) (h3:zf1 P e=some z) (h4:z.length=k+1)
 {old:Option Nat} {o:AObj} {n m:Nat} {vs news:List Value} {ad:Option Nat} {cap:Nat} (he:o.elem=e)
 (hold:match old with|some id=>∃ oo,s.ob id=some oo/\γ id=some (.arr ad (k+1) n cap)/\oo.mu=o.mu|none=>ad=none)
 (hA:zb1 M w e o.mu (k+1) n vs ad cap) {v:Value} (hsrc:Src P (k+1) tx v m news w) (hby:(n+m)*(b+1)<=140737488355328)
 (hr:zer M o (k+1) (n+m) (vs++news)):
 ∃ r w' γ' M',(Builtin.append_ #[t,tx] ty #[yX ad n cap,v]).run P w=.ok r w'/\StG C γ' M' (zae s d old o) (a.put (some d) r) w':=by
 obtain⟨i,zv,hi,hsz,hb,hz,hzs⟩:=zGI h1 h2 h3 h4
 subst he
 have hm:=zFR hby
 obtain⟨a',cap',w',hrun,hown,hg⟩:=zo5 (P:=P) hA t tx ty i zv (zaA ht) hi hz hsz hzs (by omega) v m news hsrc hm (by rw[hb];exact hby)
 obtain⟨γ',M',hst⟩:=hs.appendRow hd hu hold hA hown hg hsrc.one hm hr
 exact⟨_,w',γ',M',hrun,hst⟩
theorem zBl{ob:Nat->Option AObj}{e:TypeId}{x:AV}{old:Option Nat}{bo:Option AObj}(h:zjX ob e x=some (old,bo)):
 (x=.p .nil/\old=none/\bo=none)\/∃ id o,x=.arr id/\ob id=some o/\o.elem=e/\old=some id/\bo=some o:=by
 unfold zjX at h
 split at h
 .cases h;exact .inl ⟨rfl,rfl,rfl⟩
 .rename_i id
  split at h
  .rename_i o ho
   obtain⟨hb,he⟩:=zI h
   cases he
   exact .inr ⟨id,o,rfl,ho,Nat.eq_of_beq_eq_true hb,rfl,rfl⟩
  .cases h
 .cases h
theorem zpU(hs:StG C γ M s a w){d:Nat}(hd:yL C.nt (some d)=true)(hu:s.us d=false){t tx ty:TypeId}{x y:AV}{o:AObj}{old:Option Nat}{ok:Option Prop}
 (h:zaL P s.ob t tx [x,y]=some (o,old,ok)) (hok:okP ok) {u v:Value} (hx:zp γ M x u) (hy:zp γ M y v):
 ∃ r w' γ' M',(Builtin.append_ #[t,tx] ty #[u,v]).run P w=.ok r w'/\StG C γ' M' (zae s d old o) (a.put (some d) r) w':=by
 unfold zaL at h
 split at h
 .rename_i x' y' heq
  cases heq
  split at h
  .rename_i e he
   split at h
   .rename_i k b z old' bo h1 h2 h3 hbase
    split at h
    .rename_i hzl
     have h4:=Nat.eq_of_beq_eq_true hzl
     have hbs:=zBl hbase
     split at h
     .rename_i hu8
      rw[Bool.and_eq_true]at hu8
      have hk0:k=0:=by have:=Nat.eq_of_beq_eq_true hu8.2;omega
      subst hk0
      split at h
      .rename_i l hsrc
       cases h
       have hsrc':=zmQ (P:=P) hs hsrc hy
       rcases hbs with⟨rfl,rfl,_⟩|⟨_,_,_,_,_,_,hc⟩
       .cases hx.p_inv
        exact zeb (ty:=ty) hs hd hu he h1 h2 h3 h4 (old:=none) (n:=0) (m:=l.length) (vs:=[]) (ad:=none) (cap:=0) (o:=.barr e false l) rfl rfl (zdh M w _ _ _) hsrc' (by rw[Nat.zero_add];exact hok) ⟨rfl,by simp,rfl⟩
       .cases hc
      .rename_i e2 mu l0 l hsrc
       cases h
       have hsrc':=zmQ (P:=P) hs hsrc hy
       rcases hbs with⟨_,_,hc⟩|⟨id,o',rfl,ho,hel,rfl,hc⟩
       .cases hc
       .cases hc
        obtain⟨ad,k',n,cap,hg,rfl⟩:=hx.arr_inv
        obtain⟨a2,cap2,hg',hA⟩:=hs.ob id _ ho
        rw[hg]at hg';cases hg'
        have hel:e2=e:=hel
        subst hel
        exact zeb (ty:=ty) hs hd hu he h1 h2 h3 h4 (old:=some id) (o:=.barr e2 mu (l0++l)) rfl ⟨_,ho,hg,rfl⟩ hA hsrc' hok ⟨rfl,by simp,by simp⟩
      .cases h
     .split at h
      .rename_i R hsrc
       cases h
       obtain⟨news,hsrc',hf⟩:=zmO (P:=P) hs hsrc hy
       rcases hbs with⟨rfl,rfl,_⟩|⟨_,_,_,_,_,_,hc⟩
       .cases hx.p_inv
        exact zeb (ty:=ty) hs hd hu he h1 h2 h3 h4 (old:=none) (n:=0) (m:=R.n) (vs:=[]) (ad:=none) (cap:=0) (o:=.larr e false (k+1) R) rfl rfl (zdh M w _ _ _) hsrc' (by rw[Nat.zero_add];exact hok) ⟨rfl,by simp,by simpa using hf⟩
       .cases hc
      .rename_i e2 mu k0 R0 R hsrc
       split at h
       .rename_i hk0
        have hk0:=Nat.eq_of_beq_eq_true hk0
        subst hk0
        cases h
        obtain⟨news,hsrc',hf⟩:=zmO (P:=P) hs hsrc hy
        rcases hbs with⟨_,_,hc⟩|⟨id,o',rfl,ho,hel,rfl,hc⟩
        .cases hc
        .cases hc
         obtain⟨ad,k',n',cap,hg,rfl⟩:=hx.arr_inv
         obtain⟨a2,cap2,vs,hg',hv,hA⟩:=hs.ob id _ ho
         rw[hg]at hg';cases hg'
         have hel:e2=e:=hel
         subst hel
         have hcat:=zGM R0 R
         refine zeb (ty:=ty) hs hd hu he h1 h2 h3 h4 (old:=some id) (o:=.larr e2 mu (k+1) (zGN R0 R)) rfl ⟨_,ho,hg,rfl⟩ hA hsrc' hok ⟨rfl,hcat.1.symm,?_⟩
         intro i j hi hj
         have hlv:=hA.len_vs
         rcases Nat.lt_or_ge i R0.n with hlt|hge
         .obtain ⟨q,hq1,hq2⟩:=hv i j hlt hj
          refine⟨q,?_,by rw[hcat.2.1 i j hlt];exact hq2⟩
          rw[List.getElem?_append_left]
          .exact hq1
          .rcases Nat.lt_or_ge (i*(k+1)+j) vs.length with h5|h5
           .exact h5
           .rw [List.getElem?_eq_none h5]at hq1;cases hq1
         .obtain ⟨q,hq1,hq2⟩:=hf (i-R0.n) j (by omega) hj
          refine⟨q,?_,by rw[hcat.2.2 i j hge hi];exact hq2⟩
          have e3:i*(k+1)+j=vs.length+((i-R0.n)*(k+1)+j):=by
           rw[hlv,<-Nat.add_assoc,<-Nat.add_mul]
           congr 2
           omega
          rw[e3,List.getElem?_append_right (by omega),Nat.add_sub_cancel_left]
          exact hq1
       .cases h
      .cases h
    .cases h
   .cases h
  .cases h
 .rename_i hne
  exact absurd rfl (hne x y)
def zd7(P:Program)(ob:Nat->Option AObj)(t:TypeId):List AV->Option (Nat×AObj×Option Prop)
 | [.ref id off,x]=>match ob id,x.cells?,zaH P t with
  | some (.cells cs),some ys,some n=>match Nat.beq ys.length n&&Nat.ble (off+n) cs.length&&ys.all AV.one with
   | true=>some (id,.cells (over cs off ys),none)
   | false=>none
  | some (.bldr T _),some [y],some 1=>match Nat.beq off 1&&y.one with
   | true=>some (id,.bldr T y,none)
   | false=>none
  | _,_,_=>none
 | [.aptr id i j,x]=>match ob id,x,zaH P t with
  | some (.barr e true l),.p (.int .u8 v),some 1=>match j with
   | 0=>some (id,.barr e true (l.set i (UInt8.ofNat v.toNat)),some (i<l.length))
   | _=>none
  | some (.bcv e l),.p (.int .u8 v),some 1=>match j with
   | 0=>some (id,.bcv e (l.set i (UInt8.ofNat v.toNat)),some (i<l.length))
   | _=>none
  | some (.larr e true k R),x,some m=>match x.cells? with
   | some ys=>match zN zH6 ys with
    | some ps=>match Nat.beq ys.length m&&Nat.ble (j+m) k with
     | true=>some (id,.larr e true k (zND R k i j m ps),some (i<R.n))
     | false=>none
    | none=>none
   | none=>none
  | _,_,_=>none
 | _=>none
theorem zmu(cur:Array Value)(off:Nat)(vs:List Value)(h:off+vs.length<=cur.size):
 ∀ j,(cur.toList.take off++vs++cur.toList.drop (off+vs.length)).toArray[j]?=if off<=j/\j<off+vs.length then vs[j-off]? else cur[j]?:=by
 intro j
 have hl:(cur.toList.take off).length=off:=by simp;omega
 rw[List.getElem?_toArray]
 by_cases h1:j<off
 .rw [List.append_assoc,List.getElem?_append_left (by omega),if_neg (by omega),List.getElem?_take,if_pos h1,Array.getElem?_toList]
 .rw [List.append_assoc,List.getElem?_append_right (by omega),hl]
  by_cases h2:j<off+vs.length
  .rw [List.getElem?_append_left (by omega),if_pos (by omega)]
  .rw [List.getElem?_append_right (by omega),if_neg (by omega),List.getElem?_drop,Array.getElem?_toList]
   congr 1
   omega
theorem StG.write(h:StG C γ M s a w){id:Nat}{o o':AObj}(ho:s.ob id=some o){g:G}(hg:γ id=some g){b:Nat}(hb:g.blk=some b)
 {w':World} (hos:w'.os=w.os) (htape:w'.tape=w.tape) (hout:w'.output=w.output) (hsz:w'.heap.size=w.heap.size)
 (hother:∀ c,c≠b->w'.heap[c]?=w.heap[c]?) (hM:∀ q,M b q=none) (hn:OM γ M w' id o'):
 StG C γ M { s with ob:=upd s.ob id (some o') } a w':=by
 have hne:s.ob id≠none:=by rw[ho];simp
 have hblk:∀ i g' c,i≠id->s.ob i≠none->γ i=some g'->g'.blk=some c->c≠b:=by
  intro i g' c hi hob hgi hc e
  subst e
  exact hi (h.sep i id g' g c hob hne hgi hg hc hb)
 have hl:=h.lo id g b hne hg hb
 refine h.master (s':={ s with ob:=upd s.ob id (some o') }) (GLe.refl γ) (MLe.refl M) h.sl h.nt h.df id
  (fun i hi=>.inr (zC _ _ hi)) (fun _ _=>rfl) ?_ ?_ ?_ ?_ ?_ (by omega) ?_ (fun _ _ _=>rfl) ?_
 .intro i hi
  refine⟨hi,fun e=>?_⟩
  subst e
  rw[h.us i hi]at hg;cases hg
 .intro o2 ho2
  dsimp only at ho2
  rw[zw]at ho2;cases ho2;exact hn
 .intro i g' c hi hob hgi hc
  dsimp only at hob
  rw[zC _ _ hi]at hob
  exact⟨hother c (hblk i g' c hi hob hgi hc),rfl⟩
 .intro i g1 g2 c hi hob _ hg1 hg2 hb1 hb2
  dsimp only at hob
  rw[zC _ _ hi]at hob
  rw[hg]at hg2;cases hg2
  rw[hb]at hb2;cases hb2
  exact hblk i g1 b hi hob hg1 hb1 rfl
 .intro g' c _ hg' hc
  rw[hg]at hg';cases hg'
  rw[hb]at hc;cases hc
  exact⟨hl.1,by omega⟩
 .refine ⟨?_,h.mem.good⟩
  intro c q v hv
  by_cases e:c=b
  .subst e;rw[hM q]at hv;cases hv
  .rw [World.cell?_of_block (w:=w) (hother c e)];exact h.mem c q v hv
 .have hf:=h.fr
  refine⟨hos.trans hf.os,htape.trans hf.tape,hout.trans hf.output,by have:=hf.size;omega,fun c hc hno=>?_,hf.tab⟩
  rw[hother c ?_]
  .exact hf.block c hc hno
  .intro e
   subst e
   rcases hl.1 with h2|h2
   .omega
   .exact hno h2
theorem zem(vs xs:List Value)(off:Nat)(h:off+xs.length<=vs.length)(j:Nat):
 (vs.take off++xs++vs.drop (off+xs.length))[j]?=if off<=j/\j<off+xs.length then xs[j-off]? else vs[j]?:=by
 have hl:(vs.take off).length=off:=by simp;omega
 by_cases h1:j<off
 .rw [List.append_assoc,List.getElem?_append_left (by omega),if_neg (by omega),List.getElem?_take,if_pos h1]
 .rw [List.append_assoc,List.getElem?_append_right (by omega),hl]
  by_cases h2:j<off+xs.length
  .rw [List.getElem?_append_left (by omega),if_pos (by omega)]
  .rw [List.getElem?_append_right (by omega),if_neg (by omega),List.getElem?_drop]
   congr 1
   omega
theorem zsz(hs:StG C γ M s a w){id:Nat}{o o':AObj}(ho:s.ob id=some o){g k n cap:Nat}(hg:γ id=some (.arr (some g) k n cap)){vs:List Value}
 (hA:zb1 M w o.elem o.mu k n vs (some g) cap) (hmu:o.mu=true) {t m:Nat} (hn:zaH P t=some m) {v:Value} (hsz:v.cells.size=m)
 (hone:∀ u ∈ v.cells.toList,u.oneCell'=true) {base:Nat} (hb:base+m<=n*k) (he:o'.elem=o.elem) (hmu':o'.mu=true)
 (hr:zer M o' k n (vs.take base++v.cells.toList++vs.drop (base+m))):
 ∃ w',(Instr.storeAt t (.pointer (some ⟨g,base,none⟩)) v).run P w=.ok () w'/\StG C γ M { s with ob:=upd s.ob id (some o') } a w':=by
 have hM:∀ q,M g q=none:=by have:=hA.mem g rfl;rw[hmu]at this;simpa using this
 have hl:v.cells.toList.length=m:=by simpa using hsz
 rcases hA.own.2 with⟨hv,_⟩|⟨g',cap',cur,hv,_,hh,hnc,hcm,hcs,htake⟩
 .simp [yX]at hv
 .simp only[yX,Option.map_some,Value.slice.injEq,Option.some.injEq,Addr.mk.injEq,and_true,true_and]at hv
  obtain⟨rfl,rfl⟩:=hv
  have hnk:n*k<=cur.size:=by rw[hcs];exact Nat.mul_le_mul_right k hnc
  have hvl:=hA.len_vs
  have hrun:=run_storeCells_at P g base o.elem v.cells.toList 0 cur w hh (by rw[hl];omega) hone
  simp only[Nat.add_zero]at hrun
  have hov:=zmu cur base v.cells.toList (by rw[hl];omega)
  have hov2:=zem vs v.cells.toList base (by rw[hl,hvl];exact hb)
  rw[hl]at hov hov2 hrun
  refine⟨w.setRow g (cur.toList.take base++v.cells.toList++cur.toList.drop (base+m)).toArray,?_,
   hs.write (w':=w.setRow g (cur.toList.take base++v.cells.toList++cur.toList.drop (base+m)).toArray) ho hg rfl rfl rfl rfl (by simp) (fun c hc=>setRow_other w g c _ hc) hM
    (OM.row hg hr ⟨⟨?_,.inr ⟨g,cap,_,rfl,Nat.zero_le _,by rw[he];exact setRow_heap w g cur _ _ _ hh,hnc,hcm,?_,?_⟩⟩,?_,hA.len,?_⟩)⟩
  .simp only[Instr.storeAt,Instr.sureAddr,Sem.run_bind,Sem.run_pure,Result.andThen_ok,storeVar,yu hn]
   rw[if_neg (by simp[hsz])]
   exact hrun
  .simp only[List.length_append,List.length_take,List.length_drop,hl];omega
  .simp only[List.size_toArray,List.length_append,List.length_take,List.length_drop,Array.length_toList,hl];omega
  .apply List.ext_getElem?
   intro q
   rw[hov2 q,List.getElem?_take]
   by_cases hq:q<n*k
   .rw [if_pos hq,Array.getElem?_toList,hov q]
    by_cases hc:base<=q/\q<base+m
    .rw [if_pos hc,if_pos hc]
    .rw [if_neg hc,if_neg hc,<-htake,List.getElem?_take,if_pos hq,Array.getElem?_toList]
   .rw [if_neg hq,if_neg (by omega),List.getElem?_eq_none (by omega)]
  .intro u hu
   rw[List.mem_append,List.mem_append]at hu
   rcases hu with(hu|hu)|hu
   .exact hA.one u (List.mem_of_mem_take hu)
   .exact hone u hu
   .exact hA.one u (List.mem_of_mem_drop hu)
  .intro g' hg'
   cases hg'
   rw[hmu']
   simpa using hM
theorem zhY(g i:Nat)(t:TypeId)(fz:Nat×Nat)(cur:Array Value)(w:World)(v:Value)(hg:w.heap[g]?=some (.cells cur t fz))(hi:i<cur.size)(hf:fz.2<=i\/i<fz.1)(h1:v.oneCell'=true):
 (storeCells ⟨g,i,none⟩ [v] 0).run P w=.ok () (w.setRow g (cur.setIfInBounds i v)):=by
 have hadd:(⟨g,i,none⟩:Addr).add 0=⟨g,i,none⟩:=by unfold Addr.add;split <;> simp_all
 have hcell:w.cell? ⟨g,i,none⟩=some cur[i]:=by simp[World.cell?,hg,hi]
 have hfro:w.frozen? ⟨g,i,none⟩=false:=by
  obtain⟨lo,hi'⟩:=fz
  simp only[World.frozen?,hg,Bool.and_eq_false_iff,decide_eq_false_iff_not]
  rcases hf with h|h
  .exact .inr (by simpa using h)
  .exact .inl (by simpa using h)
 have hst:(store ((⟨g,i,none⟩:Addr).add 0) v).run P w=.ok () (w.setRow g (cur.setIfInBounds i v)):=by
  rw[hadd,run_store P w _ v _ h1,hcell]
  simp[hfro,setCell_eq_setRow w g i cur t fz v hg]
 simp only[storeCells,Sem.run_bind,hst,Result.andThen_ok]
 rfl
theorem zrE(hs:StG C γ M s a w){t id:Nat}{x y:AV}{o:AObj}{ok:Option Prop}(h:zd7 P s.ob t [x,y]=some (id,o,ok))(hok:okP ok){u v:Value}
 (hx:zp γ M x u) (hy:zp γ M y v):
 ∃ w',(Instr.storeAt t u v).run P w=.ok () w'/\StG C γ M { s with ob:=upd s.ob id (some o) } a w':=by
 cases x with
 | ref id' off=>
  dsimp only[zd7]at h
  split at h
  .rename_i cs ys n ho hc hn
   split at h
   .rename_i hb
    cases h
    rw[Bool.and_eq_true,Bool.and_eq_true]at hb
    have h1:=Nat.eq_of_beq_eq_true hb.1.1
    have h2:=Nat.le_of_ble_eq_true hb.1.2
    have h3:=hb.2
    obtain⟨b,hg,rfl⟩:=hx.ref_inv
    obtain⟨b',vs,e,hg',hh,hsz,hcc,hm⟩:=hs.ob id _ ho
    rw[hg]at hg';cases hg'
    have hr:=zdC hc hy
    have hone:=zsF hr h3
    have hl:v.cells.toList.length=ys.length:=by simpa using hr.1
    have hrun:=run_storeCells_at P b off e v.cells.toList 0 vs w hh (by rw[hl];omega) (by
     intro q hq
     obtain⟨j,hj,rfl⟩:=List.getElem_of_mem hq
     have hj':j<v.cells.size:=by simpa using hj
     have:=hone j (by rw[<-hr.1];exact hj')
     rw[Array.getD_eq_getD_getElem?,Array.getElem?_eq_getElem hj']at this
     simpa using this)
    simp only[Nat.add_zero]at hrun
    have hov:=zmu vs off v.cells.toList (by rw[hl];omega)
    have hle:off+ys.length<=cs.length:=by omega
    refine⟨w.setRow b (vs.toList.take off++v.cells.toList++vs.toList.drop (off+v.cells.toList.length)).toArray,?_,
     hs.write (w':=w.setRow b (vs.toList.take off++v.cells.toList++vs.toList.drop (off+v.cells.toList.length)).toArray) ho hg rfl rfl rfl rfl (by simp) (fun c hc=>setRow_other w b c _ hc) hm ⟨b,_,e,hg,setRow_heap w b vs _ e _ hh,?_,fun j hj=>?_,hm⟩⟩
    .have hsz2:v.cells.size=n:=by rw[hr.1];exact h1
     simp only[Instr.storeAt,Instr.sureAddr,Sem.run_bind,Sem.run_pure,Result.andThen_ok,storeVar,yu hn]
     rw[if_neg (by simp[hsz2])]
     exact hrun
    .rw [zcx hle]
     simp only[List.size_toArray,List.length_append,List.length_take,List.length_drop,Array.length_toList]at hl ⊢
     omega
    .rw [zcx hle]at hj
     rw[zw7 hle,Array.getD_eq_getD_getElem?,hov j,hl]
     by_cases hcnd:off<=j/\j<off+ys.length
     .rw [if_pos hcnd,if_pos hcnd]
      have q1:=hr.2 (j-off) (by omega)
      have q2:=hone (j-off) (by omega)
      rw[Array.getD_eq_getD_getElem?]at q1 q2
      rw[Array.getElem?_toList]
      exact⟨q1,q2⟩
     .rw [if_neg hcnd,if_neg hcnd]
      have:=hcc j hj
      rw[Array.getD_eq_getD_getElem?]at this
      exact this
   .cases h
  .rename_i T a0 y' ho hc hn
   split at h
   .rename_i hb
    cases h
    rw[Bool.and_eq_true]at hb
    have h1:=Nat.eq_of_beq_eq_true hb.1
    subst h1
    obtain⟨b,hg,rfl⟩:=hx.ref_inv
    obtain⟨b',v0,v1,hg',hh,h0,_,_,hm⟩:=hs.ob id _ ho
    rw[hg]at hg';cases hg'
    have hr:=zdC hc hy
    have hsz:v.cells.size=1:=hr.1
    obtain⟨u,hu⟩:∃ u,v.cells=#[u]:=by
     match hq:v.cells,hsz with
     | ⟨[u]⟩,_=>exact⟨u,rfl⟩
    have hyu:zp γ M y' u:=by
     have:=hr.2 0 (by simp)
     simpa[hu]using this
    have hone:u.oneCell'=true:=hyu.oneCell hb.2
    have hrun:=zhY (P:=P) b 1 T (0,0) #[v0,v1] w u hh (by simp) (.inl (by simp)) hone
    refine⟨w.setRow b (#[v0,v1].setIfInBounds 1 u),?_,hs.write (w':=w.setRow b (#[v0,v1].setIfInBounds 1 u)) ho hg rfl rfl rfl rfl (by simp) (fun c hc=>setRow_other w b c _ hc) hm ⟨b,v0,u,hg,setRow_heap w b #[v0,v1] _ T _ hh,h0,hyu,hone,hm⟩⟩
    simp only[Instr.storeAt,Instr.sureAddr,Sem.run_bind,Sem.run_pure,Result.andThen_ok,storeVar,yu hn]
    rw[if_neg (by simp[hsz]),hu]
    exact hrun
   .cases h
  .cases h
 | aptr id' i j=>
  dsimp only[zd7]at h
  obtain⟨g,k,n,cap,hg,rfl⟩:=hx.aptr_inv
  split at h
  .rename_i e l v' ho hn
   split at h
   .cases h
    have hlt:i<l.length:=hok
    obtain⟨a2,cap2,hg',hA⟩:=hs.ob id _ ho
    rw[hg]at hg';cases hg'
    obtain⟨rfl,hv⟩:=hy.int_inv
    refine zsz (P:=P) (v:=.int .u8 v') hs ho hg hA rfl hn rfl (by simp[Value.cells,Value.oneCell']) (base:=i*1+0) (by omega) rfl rfl ⟨rfl,by simp,?_⟩
    rw[zop hv]
    have hov2:=zem (l.map zat) [zat (UInt8.ofNat v'.toNat)] (i*1+0) (by simp;omega)
    apply List.ext_getElem?
    intro q
    refine(hov2 q).trans ?_
    rw[List.map_set,List.getElem?_set]
    simp only[Nat.mul_one,Nat.add_zero,List.length_singleton,List.length_map]
    by_cases hq:i=q
    .subst hq
     rw[if_pos (by omega),if_pos rfl,if_pos hlt]
     simp
    .rw [if_neg (by omega),if_neg hq]
   .cases h
  .rename_i e l v' ho hn
   split at h
   .cases h
    have hlt:i<l.length:=hok
    obtain⟨g',cur,hg',hh,ht,hc,hl,hm⟩:=hs.ob id _ ho
    rw[hg]at hg';cases hg'
    obtain⟨rfl,hv⟩:=hy.int_inv
    have hrun:=zhY (P:=P) g i e _ cur w (.int .u8 v') hh (by omega) (.inr (by show i<cur.size;omega)) rfl
    have hsz:(cur.setIfInBounds i (.int .u8 v')).size=cur.size:=by simp
    refine⟨w.setRow g (cur.setIfInBounds i (.int .u8 v')),?_,hs.write (w':=w.setRow g (cur.setIfInBounds i (.int .u8 v'))) ho hg rfl rfl rfl rfl (by simp) (fun c hc=>setRow_other w g c _ hc) hm
     ⟨g,cur.setIfInBounds i (.int .u8 v'),by rw[hsz,List.length_set];exact hg,by rw[hsz];exact setRow_heap w g cur _ e _ hh,?_,by rw[hsz,List.length_set];exact hc,by rw[List.length_set];exact hl,hm⟩⟩
    .simp only[Instr.storeAt,Instr.sureAddr,Sem.run_bind,Sem.run_pure,Result.andThen_ok,storeVar,yu hn]
     rw[if_neg (by simp[Value.cells])]
     simpa[Value.cells]using hrun
    .rw [zop hv,List.length_set,Array.toList_setIfInBounds,List.take_set,ht,List.map_set]
   .cases h
  .rename_i e k2 R m ho hn
   split at h
   .rename_i ys hc
    split at h
    .rename_i ps hps
     split at h
     .rename_i hb
      cases h
      rw[Bool.and_eq_true]at hb
      have h1:=Nat.eq_of_beq_eq_true hb.1
      have h2:=Nat.le_of_ble_eq_true hb.2
      obtain⟨a2,cap2,vs,hg',hv,hA⟩:=hs.ob id _ ho
      rw[hg]at hg';cases hg'
      have hr:=zdC hc hy
      have hlt:i<R.n:=hok
      have hset:=zEY (M:=M) R k i j m ps
      obtain⟨q1,q2⟩:=za4 hps
      have hpv:∀ q,q<ys.length->∃ p,ps[q]?=some p/\zR M p (v.cells.getD q undef):=by
       intro q hq
       obtain⟨p,hp,hf⟩:=q2 q _ (List.getElem?_eq_getElem hq)
       refine⟨p,hp,?_⟩
       have:=hr.2 q hq
       rw[List.getD_eq_getElem?_getD,List.getElem?_eq_getElem hq]at this
       unfold zH6 at hf
       split at hf
       .rename_i hx2
        cases hf
        simp only[Option.getD_some]at this
        rw[hx2]at this
        exact this.p_inv
       .cases hf
      have hik:(i+1)*k<=R.n*k:=Nat.mul_le_mul_right k hlt
      rw[Nat.add_mul,Nat.one_mul]at hik
      have hvl:=hA.len_vs
      have hsz:v.cells.size=m:=by rw[hr.1];exact h1
      refine zsz (P:=P) (v:=v) hs ho hg hA rfl hn hsz ?_ (base:=i*k+j) (by omega) rfl rfl ⟨rfl,hset.1.symm,?_⟩
      .intro u hu
       obtain⟨q,hq,rfl⟩:=List.getElem_of_mem hu
       have hq':q<v.cells.size:=by simpa using hq
       obtain⟨p,_,hp⟩:=hpv q (by rw[<-hr.1];exact hq')
       rw[Array.getD_eq_getD_getElem?,Array.getElem?_eq_getElem hq']at hp
       exact hp.oneCell
      .intro i' j' hi' hj'
       suffices hraw:∃ u,(vs.take (i*k+j)++v.cells.toList++vs.drop (i*k+j+m))[i'*k+j']?=some u/\zR M (zlF R.f i j m ps i' j') u by
        obtain⟨u,hu1,hu2⟩:=hraw
        exact⟨u,hu1,hset.2 i' j' hi' hj' u hu2⟩
       unfold zlF
       have hl:v.cells.toList.length=m:=by simpa using hsz
       have hov2:=zem vs v.cells.toList (i*k+j) (by rw[hl];omega) (i'*k+j')
       rw[hl]at hov2
       rw[hov2]
       by_cases hi:i'=i
       .subst hi
        have e1:Nat.beq i' i'=true:=by simp
        by_cases hj:j<=j'/\j'<j+m
        .have e2:Nat.ble j j'=true:=Nat.ble_eq_true_of_le hj.1
         have e3:Nat.blt j' (j+m)=true:=Nat.ble_eq_true_of_le hj.2
         rw[if_pos (by omega)]
         simp only[e1,e2,e3,Bool.and_self]
         obtain⟨p,hp1,hp2⟩:=hpv (j'-j) (by omega)
         have e4:i'*k+j'-(i'*k+j)=j'-j:=by omega
         rw[e4,Array.getElem?_toList,Array.getElem?_eq_getElem (by omega)]
         refine⟨_,rfl,?_⟩
         rw[List.getD_eq_getElem?_getD,hp1]
         rw[Array.getD_eq_getD_getElem?,Array.getElem?_eq_getElem (by omega)]at hp2
         exact hp2
        .have e2:(Nat.beq i' i'&&Nat.ble j j'&&Nat.blt j' (j+m))=false:=by
          rw[Bool.and_eq_false_iff]
          by_cases h5:j<=j'
          .right
           cases hb2:Nat.blt j' (j+m)with
           | false=>rfl
           | true=>exact absurd ⟨h5,Nat.le_of_ble_eq_true hb2⟩ hj
          .left
           rw[Bool.and_eq_false_iff];right
           cases hb2:Nat.ble j j' with
           | false=>rfl
           | true=>exact absurd (Nat.le_of_ble_eq_true hb2) h5
         rw[if_neg (by omega)]
         simp only[e2]
         exact hv i' j' hi' hj'
       .have e1:Nat.beq i' i=false:=by
         cases hb2:Nat.beq i' i with
         | false=>rfl
         | true=>exact absurd (Nat.eq_of_beq_eq_true hb2) hi
        have hne:¬ (i*k+j<=i'*k+j'/\i'*k+j'<i*k+j+m):=by
         rcases Nat.lt_or_gt_of_ne hi with h5|h5
         .have:(i'+1)*k<=i*k:=Nat.mul_le_mul_right k h5
          rw[Nat.add_mul,Nat.one_mul]at this
          omega
         .have:(i+1)*k<=i'*k:=Nat.mul_le_mul_right k h5
          rw[Nat.add_mul,Nat.one_mul]at this
          omega
        rw[if_neg hne]
        simp only[e1,Bool.false_and]
        exact hv i' j' hi' hj'
     .cases h
    .cases h
   .cases h
  .cases h
 | _=>cases h
end Go.Am
/-! Calls of functions by their contracts;one operation. -/
namespace Go.Am
open Go Go.RowKit
variable {P:Program}{γ γ':Nat->Option G}{M M':Mem}{C:Ctx}{s s':S}{a a':Act}{w w':World}
abbrev γ0:Nat->Option G:=fun _=>none
def FnP(P:Program)(f:FuncId)(args:List AV)(r:AV):Prop:=
 ∀ (M:Mem) (w:World) (vs:List Value),WOk M w->zB γ0 M args vs->
  Calls P f vs.toArray w fun e w'=>∃ v M',e=.returned v/\MLe M M'/\(∀ b,b<w.heap.size->M' b=M b)/\MOk M' w'/\zp γ0 M' r v/\Below w.heap.size w w'
def zdE(P:Program)(f:FuncId):Bool:=
 match P.funcs[f]? with
 | some fn=>fn.body.isSome&&!(fn.name== "runtime.NumGoroutine")
 | none=>false
theorem zfe{f:FuncId}(h:zdE P f=true)(vs:Array Value)(w:World):(callFunc f vs).run P w=.ok (.enter f vs) w:=by
 unfold zdE at h
 cases hf:P.funcs[f]? with
 | none=>rw[hf]at h;cases h
 | some fn=>
  rw[hf]at h
  dsimp only at h
  rw[Bool.and_eq_true,Bool.not_eq_true']at h
  have h2:fn.body.isNone=false:=by cases hb:fn.body with|none=>rw[hb]at h;cases h.1|some _=>rfl
  have h3:¬ (fn.name= "runtime.NumGoroutine"):=by have:=h.2;simpa using this
  have h4:¬ (fn.body=none):=by intro e;rw[e]at h2;cases h2
  simp[callFunc,hf,h3,h4]
abbrev Env:=FuncId->List AV->Option (AV×Option Prop)
def ExtP(P:Program)(f:FuncId)(args:List AV)(r:AV):Prop:=
 ∀ (M:Mem) (w:World) (vs:List Value),WOk M w->zB γ0 M args vs->∃ v,(callFunc f vs.toArray).run P w=.ok (.value v) w/\zp γ0 M r v
def zRm(P:Program)(f:FuncId)(args:List AV)(r:AV):Prop:=(zdE P f=true/\FnP P f args r)\/ExtP P f args r
def zau(P:Program)(env:Env):Prop:=∀ f zs r ok,env f zs=some (r,ok)->okP ok->zRm P f zs r
def zbV(ob:Nat->Option AObj):AV->Option AV
 | .p x=>some (.p x)
 | .arr id=>match ob id with
  | some (.barr _ false l)=>some (.p (.bytes l))
  | some (.larr _ false k R)=>some (.p (.list k R))
  | _=>none
 | _=>none
def zfZ(ob:Nat->Option AObj):AV->Option AV
 | .agg cs=>(zN (zbV ob) cs).map .agg
 | .clo fn fs cs=>match zN (zbV ob) fs,zN (zbV ob) cs with
  | some fs',some cs'=>some (.clo fn fs' cs')
  | _,_=>none
 | x=>zbV ob x
theorem zai(hs:StG C γ M s a w){x z:AV}(h:zbV s.ob x=some z){v:Value}(hx:zp γ M x v):zp γ0 M z v:=by
 cases x with
 | p q=>cases h;exact .p _ _ hx.p_inv
 | arr id=>
  obtain⟨ad,k,n,cap,hg,rfl⟩:=hx.arr_inv
  dsimp only[zbV]at h
  cases ho:s.ob id with
  | none=>rw[ho]at h;cases h
  | some o=>
   rw[ho]at h
   have cap_ge:∀ {e mu k n vs g cap},zb1 M w e mu k n vs (some g) cap->n<=cap:=by
    intro e mu k n vs g cap hA
    rcases hA.own.2 with⟨hv,_⟩|⟨g',cap',cur,hv,_,_,hc,_⟩
    .simp [yX]at hv
    .simp [yX]at hv;omega
   cases o with
   | cells cs=>cases h
   | bcv _ _=>cases h
   | bldr _ _=>cases h
   | raw _=>cases h
   | mp _ _=>cases h
   | barr e mu l=>
    cases mu with
    | true=>cases h
    | false=>
     cases h
     obtain⟨a2,cap2,hg',hA⟩:=hs.ob id _ ho
     rw[hg]at hg';cases hg'
     cases ad with
     | none=>
      have h0:=hA.none
      have hl:l=[]:=List.eq_nil_of_length_eq_zero h0.1
      subst hl
      rw[h0.2]
      exact .p _ _ .bytesNil
     | some g=>
      refine .p _ _ (.bytes l g 0 cap hA.len (cap_ge hA) fun i c hc=>?_)
      have:=hA.mem g rfl
      simp only[Bool.false_eq_true,if_false]at this
      rw[Nat.zero_add,this i,List.getElem?_map,hc];rfl
   | larr e mu k' R=>
    cases mu with
    | true=>cases h
    | false=>
     cases h
     obtain⟨a2,cap2,vs,hg',hv,hA⟩:=hs.ob id _ ho
     rw[hg]at hg';cases hg'
     cases ad with
     | none=>
      have h0:=hA.none
      obtain⟨h1,rfl⟩:=h0
      rw[h1]
      exact .p _ _ (.listNil _ _ h1)
     | some g=>
      have hmem:=hA.mem g rfl
      simp only[Bool.false_eq_true,if_false]at hmem
      refine .p _ _ (.list _ R g 0 cap (fun i j=>vs.getD (i*k+j) undef) hA.len (cap_ge hA) (fun i j hi hj=>?_) (fun i j hi hj=>?_))
      .obtain ⟨u,hu,_⟩:=hv i j hi hj
       rw[Nat.zero_add,hmem,hu,List.getD_eq_getElem?_getD,hu];rfl
      .obtain ⟨u,hu,hp⟩:=hv i j hi hj
       rw[List.getD_eq_getElem?_getD,hu];exact hp
 | _=>cases h
theorem zjf(hs:StG C γ M s a w){x z:AV}(h:zfZ s.ob x=some z){v:Value}(hx:zp γ M x v):zp γ0 M z v:=by
 cases x with
 | agg cs=>
  obtain⟨zs,hz,he⟩:=map_some h
  cases he
  obtain⟨vs,rfl,hsz,hr⟩:=hx.agg_inv
  obtain⟨h1,h2⟩:=za4 hz
  refine .agg _ _ (by omega) fun i hi=>?_
  have hi':i<cs.length:=by omega
  obtain⟨y,hy,hf⟩:=h2 i _ (List.getElem?_eq_getElem hi')
  have:=hr i hi'
  rw[List.getD_eq_getElem?_getD,List.getElem?_eq_getElem hi']at this
  rw[List.getD_eq_getElem?_getD,hy]
  exact zai hs hf this
 | clo fn fs cs=>
  have part:∀ {l zs:List AV} {vs:Array Value},zN (zbV s.ob) l=some zs->(∀ i,i<l.length->zp γ M (l.getD i .any) (vs.getD i undef))->zs.length=l.length/\∀ i,i<zs.length->zp γ0 M (zs.getD i .any) (vs.getD i undef):=by
   intro l zs vs hz hr
   obtain⟨h1,h2⟩:=za4 hz
   refine⟨by omega,fun i hi=>?_⟩
   have hi':i<l.length:=by omega
   obtain⟨y,hy,hf⟩:=h2 i _ (List.getElem?_eq_getElem hi')
   have:=hr i hi'
   rw[List.getD_eq_getElem?_getD,List.getElem?_eq_getElem hi']at this
   rw[List.getD_eq_getElem?_getD,hy]
   exact zai hs hf this
  simp only[zfZ]at h
  split at h
  .rename_i fs' cs' h1 h2
   cases h
   cases hx with
   | clo _ _ _ vf vc hf hc g1 g2=>
    obtain⟨l1,r1⟩:=part h1 g1
    obtain⟨l2,r2⟩:=part h2 g2
    exact .clo _ _ _ _ _ (by omega) (by omega) r1 r2
  .cases h
 | any=>exact zai hs (x:=.any) h hx
 | p q=>exact zai hs (x:=.p _) h hx
 | ref _ _=>exact zai hs (x:=.ref _ _) h hx
 | arr _=>exact zai hs (x:=.arr _) h hx
 | aptr _ _ _=>exact zai hs (x:=.aptr _ _ _) h hx
 | mref _=>exact zai hs (x:=.mref _) h hx
 | tup _=>exact zai hs (x:=.tup _) h hx
 | gd _ _=>exact zai hs (x:=.gd _ _) h hx
theorem zEW(hs:StG C γ M s a w):∀ {xs zs:List AV} {vs:List Value},zN (zfZ s.ob) xs=some zs->zB γ M xs vs->zB γ0 M zs vs:=by
 intro xs
 induction xs with
 | nil=>intro zs vs h hx;cases h;cases hx;exact .nil
 | cons x xs ih=>
  intro zs vs h hx
  cases hx with
  | cons h1 h2=>
   simp only[zN]at h
   cases hz:zfZ s.ob x with
   | none=>rw[hz]at h;cases h
   | some z=>
    cases hr:zN (zfZ s.ob) xs with
    | none=>rw[hz,hr]at h;cases h
    | some zs'=>
     rw[hz,hr]at h;cases h
     exact .cons (zjf hs hz h1) (ih hr h2)
def evC(env:Env)(ob:Nat->Option AObj)(op:Op)(xs:List AV):Option (AV×Option Prop):=
 match op with
 | .call ⟨.value _,_,_⟩=>match xs with
  | .clo (.func f) fs cs::ys=>match zN (zfZ ob) (fs++(ys++cs))with
   | some zs=>env f zs
   | none=>none
  | _=>none
 | _=>none
theorem zB.append{xs ys:List AV}{vs us:List Value}(h:zB γ M xs vs)(k:zB γ M ys us):zB γ M (xs++ys) (vs++us):=by
 induction h with
 | nil=>exact k
 | cons h _ ih=>exact .cons h ih
theorem zB.of_get:∀ {xs:List AV} {vs:List Value},vs.length=xs.length->(∀ i,i<xs.length->zp γ M (xs.getD i .any) (vs.getD i undef))->zB γ M xs vs
 | [],[],_,_=>.nil
 | [],_::_,h,_=>by cases h
 | _::_,[],h,_=>by cases h
 | x::xs,v::vs,h,hr=>.cons (hr 0 (by simp)) (zB.of_get (by simpa using h) fun i hi=>hr (i+1) (by simpa using hi))
theorem zGE{env:Env}(henv:zau P env)(hs:StG C γ M s a w)(o:Oper)(hd:yL C.nt o.dst=true){xs:List AV}{r:AV}{ok:Option Prop}
 (h:evC env s.ob o.op xs=some (r,ok)) (hok:okP ok) (hx:zB γ M xs (o.op.operands.toList.map a.eval)) {next:Act->World->Prop} {Q:Exit->Act->World->Prop}
 (hn:∀ v M' w',zp γ M' r v->StG C γ M' (zcM s o.dst r) (a.put o.dst v) w'->next (a.put o.dst v) w'):o.wpIn (FW C.rd) 0 P a w next Q:=by
 obtain⟨dst,op,type,pos,after,guard⟩:=o
 dsimp only at hx h hd hn
 cases op <;> simp only[evC,reduceCtorEq]at h
 rename_i c
 obtain⟨callee,args,ts⟩:=c
 cases callee with
 | invoke r m=>cases h
 | builtin b=>cases h
 | value f=>
  dsimp only at h
  have hx':zB γ M xs (a.eval f::args.toList.map a.eval):=by simpa[Op.operands,Call.operands]using hx
  cases hx' with
  | cons h1 h2=>
   rename_i x ys
   split at h
   .rename_i f' fs cs ys' heq
    cases heq
    split at h
    .rename_i zs hz
     have hcp:=henv f' zs r ok h hok
     generalize hfv:a.eval f=fv at h1
     cases h1 with
     | clo _ _ _ vf vc hf hc g1 g2=>
      have hall:zB γ M (fs++(ys++cs)) (vf.toList++(args.toList.map a.eval++vc.toList)):=by
       refine(zB.of_get (by simpa using hf) fun i hi=>?_).append (h2.append (zB.of_get (by simpa using hc) fun i hi=>?_))
       .have:=g1 i hi;rw[Array.getD_eq_getD_getElem?]at this;simpa[List.getD_eq_getElem?_getD]using this
       .have:=g2 i hi;rw[Array.getD_eq_getD_getElem?]at this;simpa[List.getD_eq_getElem?_getD]using this
      have hz':=zEW hs hz hall
      have hrun0:(execOp a.eval ⟨dst,.call ⟨.value f,args,ts⟩,type,pos,after,guard⟩).run P w=(callFunc f' (vf.toList++(args.toList.map a.eval++vc.toList)).toArray).run P w:=by
       simp only[execOp,resolve,hfv,Deferred.ofValue,Sem.run_bind,Sem.run_pure,Result.andThen_ok,invoke]
       have e:vf++args.map a.eval++vc=(vf.toList++(args.toList.map a.eval++vc.toList)).toArray:=by
        apply Array.ext';simp
       rw[e]
      rcases hcp with⟨hcall,hfn⟩|hext
      .have hC:=hfn M w _ hs.wok hz'
       refine zsf (hrun0.trans (zfe hcall _ w)) (hC.mono fun e w' ⟨v,M',he,hle,hnew,hmem,hr,hb⟩=>⟨v,he,?_⟩)
       have hr':zp γ M' r v:=hr.mono (fun _ _ hx=>by cases hx) (MLe.refl M')
       exact hn v M' w' hr' (hs.put hd hle hb.size (fun b hb'=>⟨hb.block b hb',hnew b hb'⟩) hmem hb.os hb.tape hb.output hr')
      .obtain ⟨v,hv,hr⟩:=hext M w _ hs.wok hz'
       have hr':zp γ M r v:=hr.mono (fun _ _ hx=>by cases hx) (MLe.refl M)
       refine zb3 (hrun0.trans hv) ?_
       exact hn v M w hr' (hs.put hd (MLe.refl M) (Nat.le_refl _) (fun b hb'=>⟨rfl,rfl⟩) hs.mem rfl rfl rfl hr')
    .cases h
   .cases h
end Go.Am
/-! One operation;a region. -/
namespace Go.Am
open Go Go.RowKit
variable {P:Program}{γ γ':Nat->Option G}{M M':Mem}{C:Ctx}{s s':S}{a a':Act}{w w':World}
def All:List Prop->Prop
 | []=>True
 | p::r=>p/\All r
theorem All.append{l r:List Prop}(h:All (l++r)):All l/\All r:=by
 induction l with
 | nil=>exact⟨trivial,h⟩
 | cons p l ih=>exact⟨⟨h.1,(ih h.2).1⟩,(ih h.2).2⟩
theorem All.mk{l r:List Prop}(h:All l)(k:All r):All (l++r):=by
 induction l with
 | nil=>exact k
 | cons p l ih=>exact⟨h.1,ih h.2⟩
abbrev Gd:=Option Bool
def Gd.holds:Gd->Prop
 | none=>True
 | some c=>c=true
def zH0(g:Gd)(p:Prop):Prop:=
 match g with
 | none=>p
 | some c=>c=true->p
theorem zsi{g:Gd}{p:Prop}(h:zH0 g p)(hg:g.holds):p:=by
 cases g with
 | none=>exact h
 | some c=>exact h hg
def zel(g:Gd):AV->AV×List Prop
 | .gd c y=>(y,[zH0 g (c=true)])
 | x=>(x,[])
def zbU(g:Gd):List AV->List AV×List Prop
 | []=>([],[])
 | x::r=>((zel g x).1::(zbU g r).1,(zel g x).2++(zbU g r).2)
def zP(g:Gd)(op:Op)(xs:List AV):List AV×List Prop:=
 match op,xs with
 | .pick _ _ _,x::r=>((zel g x).1::r,(zel g x).2)
 | _,xs=>zbU g xs
theorem zov{g:Gd}{x:AV}{v:Value}(h:zp γ M x v)(hg:g.holds)(ho:All (zel g x).2):zp γ M (zel g x).1 v:=by
 cases x with
 | gd c y=>exact h.gd_inv (zsi ho.1 hg)
 | _=>exact h
theorem zES{g:Gd}(hg:g.holds){xs:List AV}{vs:List Value}(h:zB γ M xs vs):All (zbU g xs).2->zB γ M (zbU g xs).1 vs:=by
 induction h with
 | nil=>intro _;exact .nil
 | cons h _ ih=>
  intro ho
  have:=All.append ho
  exact .cons (zov h hg this.1) (ih this.2)
theorem zdT{g:Gd}(hg:g.holds){op:Op}{xs:List AV}{vs:List Value}(h:zB γ M xs vs)(ho:All (zP g op xs).2):zB γ M (zP g op xs).1 vs:=by
 unfold zP at *
 split at ho
 .cases h with
  | cons h1 h2=>exact .cons (zov h1 hg ho) h2
 .exact zES hg h ho
def zV(ops:Array Oper)(sl:Nat->AV)(o:Oper):Option Gd:=
 match o.guard with
 | none=>some none
 | some (j,want)=>match (ops[j]?).bind (·.dst)with
  | some t=>match sl t with
   | .p (.bool c)=>some (some (match want with|true=>c|false=>!c))
   | .gd c1 (.p (.bool c))=>some (some (c1&&(match want with|true=>c|false=>!c)))
   | _=>none
  | none=>none
theorem zjA{ops:Array Oper}{o:Oper}{g:Gd}(hs:StG C γ M s a w)(h:zV ops s.sl o=some g):
 (g.holds->Region.wanted o (yielded ops a.tmps)=true)/\(¬ g.holds->Region.wanted o (yielded ops a.tmps)=false):=by
 unfold zV at h
 unfold Region.wanted
 cases hg:o.guard with
 | none=>rw[hg]at h;cases h;exact⟨fun _=>rfl,fun hn=>absurd trivial hn⟩
 | some jw=>
  obtain⟨j,want⟩:=jw
  rw[hg]at h
  dsimp only at h ⊢
  cases ht:(ops[j]?).bind (·.dst)with
  | none=>rw[ht]at h;cases h
  | some t=>
   rw[ht]at h
   dsimp only at h
   have hr:=hs.sl t
   have hy:∀ v,a.tmps.getD t undef=v->yielded ops a.tmps j=match v with|.bool b=>some b|_=>none:=by
    intro v hv
    unfold yielded
    rw[ht]
    show(match a.tmps[t]? with|some (.bool b)=>some b|_=>none)=_
    rw[Array.getD_eq_getD_getElem?]at hv
    cases hq:a.tmps[t]? with
    | none=>rw[hq]at hv;rw[<-hv];rfl
    | some u=>rw[hq]at hv;rw[<-hv];cases u <;> rfl
   split at h
   .rename_i c hsl
    cases h
    rw[hsl]at hr
    have:=hy _ hr.bool_inv
    rw[this]
    cases want <;> cases c <;> simp[Gd.holds]
   .rename_i c1 c hsl
    cases h
    rw[hsl]at hr
    cases hr with
    | gd _ _ _ h1 h0=>
     cases c1 with
     | false=>
      have:=hy _ (h0 rfl)
      rw[this]
      simp[Gd.holds,undef]
     | true=>
      have:=hy _ (h1 rfl).bool_inv
      rw[this]
      cases want <;> cases c <;> simp[Gd.holds]
   .cases h
def evV(P:Program)(env:Env)(ob:Nat->Option AObj)(op:Op)(xs:List AV):Option (AV×Option Prop):=
 match evP P op xs with
 | some r=>some r
 | none=>match evL P ob op xs with
  | some r=>some r
  | none=>match op with
   | .build t ps=>zuY P t (ps.toList.map (·.1)) xs
   | op=>evC env ob op xs
def zDH(g:Gd)(r:AV):AV:=
 match g with
 | none=>r
 | some c=>.gd c r
def oks(g:Gd):Option Prop->List Prop
 | none=>[]
 | some p=>[zH0 g p]
def zzM:(e:Ec)->PV->Option (Elt e)
 | .int k,.int k' n=>match zFU k,zFU k' with
  | true,true=>some n
  | _,_=>none
 | .bool,.bool b=>some b
 | _,_=>none
theorem zwM{M:Mem}:∀ {e:Ec} {x:PV} {y:Elt e},zzM e x=some y->∀ {v:Value},zR M x v->zR M (cell e y 0) v:=by
 intro e x y h v hv
 unfold zzM at h
 split at h
 .rename_i k k' n
  split at h
  .rename_i h1 h2
   have e1 : k = .i64 := by unfold zFU at h1; split at h1; · rfl
                            .cases h1
   have e2 : k' = .i64 := by unfold zFU at h2; split at h2; · rfl
                             .cases h2
   subst e1;subst e2
   cases h;exact hv
  .cases h
 .cases h;exact hv
 .cases h
def zgo(P:Program)(ob:Nat->Option AObj)(t:TypeId):List AV->Option (Nat×AObj×Option Prop)
 | [.mref id,.p (.int .i64 k),.p x]=>match ob id,zAG P t with
  | some (.mp e l),some _=>match zzM e x with
   | some y=>some (id,.mp e (l++[(k,y)]),some (zX l k=false))
   | none=>none
  | _,_=>none
 | _=>none
theorem zgB.push{e:Ec}{x:MapEntry}{y:Int×Elt e}(h1:x.key=.int .i64 y.1)(h2:zR M (cell e y.2 0) x.val):∀ {es:List MapEntry} {l:List (Int×Elt e)},zgB M e es l->zgB M e (es++[x]) (l++[y])
 | [],[],_=>⟨h1,h2,trivial⟩
 | _::_,_::_,h=>⟨h.1,h.2.1,zgB.push h1 h2 h.2.2⟩
theorem zpS(hs:StG C γ M s a w){t id:Nat}{x y z:AV}{o:AObj}{ok:Option Prop}(h:zgo P s.ob t [x,y,z]=some (id,o,ok))(hok:okP ok){u v v2:Value}
 (hx:zp γ M x u) (hy:zp γ M y v) (hz:zp γ M z v2):
 ∃ w',(Instr.mapUpdate t u v v2).run P w=.ok () w'/\StG C γ M { s with ob:=upd s.ob id (some o) } a w':=by
 unfold zgo at h
 split at h
 .rename_i id' k px heq
  cases heq
  split at h
  .rename_i e l q ho hT
   split at h
   .rename_i y1 hy1
    cases h
    obtain⟨K,kq,i,zv,hu,hk,_,_,_⟩:=zsP (E:=q.1) (e:=q.2) hT
    cases hx with|mref _ b hg=>
    cases hy.p_inv
    obtain⟨b',es,cl,hg',hh,hr,hm⟩:=hs.ob id _ ho
    rw[hg]at hg';cases hg'
    have hok:zX l k=false:=hok
    have hlt:b<w.heap.size:=(Array.getElem?_eq_some_iff.1 hh).1
    have hf:Instr.findNow (.int kq) (.int .i64 k) es.toList 0=some none:=by
     rcases ziP (q:=kq) (k:=k) (i:=0) hr with⟨_,_,g3⟩|⟨g1,_⟩
     .exact g3
     .rw [hok]at g1;cases g1
    refine⟨{ w with heap:=w.heap.setIfInBounds b (.map (es.push { key:=.int .i64 k,val:=v2,born:=cl }) (cl+1)) },?_,?_⟩
    .simp only[Instr.mapUpdate,Sem.run_bind,run_underlying hu,Result.andThen_ok,ziD hh,show(Instr.checkKey false 10000 K (.int .i64 k)).run P w=.ok () w from zcH hk false k w 9999,zdp hk hf]
     simp[setObj,Sem.run,hh]
    .refine hs.write ho hg (b:=b) rfl rfl rfl rfl (by simp) (fun c hc=>?_) hm ?_
     .simp [Ne.symm hc]
     .refine ⟨b,es.push { key:=.int .i64 k,val:=v2,born:=cl },cl+1,hg,?_,?_,hm⟩
      .simp [hlt]
      .rw [Array.toList_push]
       exact zgB.push rfl (zwM hy1 hz.p_inv) hr
   .cases h
  .cases h
 .cases h
def evE(P:Program)(s:S)(o:Oper)(xs:List AV):Option (S×Option Prop):=
 match o.op with
 | .store t _ _=>match o.dst with
  | none=>(zd7 P s.ob t xs).map fun r=>({ s with ob:=upd s.ob r.1 (some r.2.1) },r.2.2)
  | some _=>none
 | .mapUpdate t _ _ _=>match o.dst with
  | none=>(zgo P s.ob t xs).map fun r=>({ s with ob:=upd s.ob r.1 (some r.2.1) },r.2.2)
  | some _=>none
 | .call ⟨.builtin .append,_,ts⟩=>match ts[0]?,ts[1]?,o.dst,xs with
  | some t,some tx,some d,[x,y]=>match s.us d,ts.size with
   | false,2=>(zaL P s.ob t tx [x,y]).map fun r=>(zae s d r.2.1 r.1,r.2.2)
   | _,_=>none
  | _,_,_,_=>none
 | op=>match evB P op xs,o.dst with
  | some (ob,ok),some d=>match s.us d,s.ob d with
   | false,none=>some (yI s d ob,ok)
   | _,_=>none
  | _,_=>none
def yx(P:Program)(env:Env)(nt:Nat)(ops:Array Oper)(o:Oper)(s:S):Option (S×List Prop):=
 match zV ops s.sl o,yL nt o.dst with
 | some g,true=>
  match evV P env s.ob o.op (zP g o.op (o.op.operands.toList.map (aev s.sl))).1 with
  | some (r,ok)=>some (zcM s o.dst (zDH g r),(zP g o.op (o.op.operands.toList.map (aev s.sl))).2++oks g ok)
  | none=>match g with
   | some _=>none
   | none=>(evE P s o (zP none o.op (o.op.operands.toList.map (aev s.sl))).1).map fun r=>(r.1,(zP none o.op (o.op.operands.toList.map (aev s.sl))).2++oks none r.2)
 | _,_=>none
theorem lits(a:Act):Lits a.eval:=fun _=>rfl
theorem zGy{env:Env}(henv:zau P env)(hs:StG C γ M s a w)(o:Oper)(hd:yL C.nt o.dst=true){xs:List AV}{r:AV}{ok:Option Prop}
 (h:evV P env s.ob o.op xs=some (r,ok)) (hok:okP ok) (hx:zB γ M xs (o.op.operands.toList.map a.eval)) {next:Act->World->Prop} {Q:Exit->Act->World->Prop}
 (hn:∀ v M' w',zp γ M' r v->StG C γ M' (zcM s o.dst r) (a.put o.dst v) w'->next (a.put o.dst v) w'):o.wpIn (FW C.rd) 0 P a w next Q:=by
 have val:∀ v,(execOp a.eval o).run P w=.ok (.value v) w->zp γ M r v->o.wpIn (FW C.rd) 0 P a w next Q:=fun v hv hr=>by
  refine zb3 hv ?_
  exact hn v M w hr (hs.put hd (MLe.refl M) (Nat.le_refl _) (fun b _=>⟨rfl,rfl⟩) hs.mem rfl rfl rfl hr)
 unfold evV at h
 cases h1:evP P o.op xs with
 | some q=>
  rw[h1]at h;cases h
  obtain⟨v,hv,hr⟩:=zGB (P:=P) o a.eval (lits a) h1 hok hx w
  exact val v hv hr
 | none=>
  rw[h1]at h
  cases h2:evL P s.ob o.op xs with
  | some q=>
   rw[h2]at h;cases h
   obtain⟨v,hv,hr⟩:=zGC (P:=P) hs o h2 hok hx
   exact val v hv hr
  | none=>
   rw[h2]at h
   dsimp only at h
   split at h
   .rename_i t ps hop
    rw[hop]at hx
    have hx':zB γ M xs (ps.toList.map fun p=>a.eval p.2):=by simpa[Op.operands,Function.comp_def]using hx
    obtain⟨v,hv,hr⟩:=zrI (P:=P) h hx' w
    refine val v ?_ hr
    obtain⟨dst,op,type,pos,after,guard⟩:=o
    dsimp only at hop
    subst hop
    simp[execOp,hv]
   .exact zGE henv hs o hd h hok hx hn
theorem zlW(hs:StG C γ M s a w)(o:Oper)(hd:yL C.nt o.dst=true){xs:List AV}{s':S}{ok:Option Prop}
 (h:evE P s o xs=some (s',ok)) (hok:okP ok) (hx:zB γ M xs (o.op.operands.toList.map a.eval)) {next:Act->World->Prop} {Q:Exit->Act->World->Prop}
 (hn:∀ γ' M' a' w',StG C γ' M' s' a' w'->next a' w'):o.wpIn (FW C.rd) 0 P a w next Q:=by
 unfold evE at h
 obtain⟨dst,op,type,pos,after,guard⟩:=o
 dsimp only at hx h hd
 split at h
 .rename_i t x y
  cases dst with
  | some d=>cases h
  | none=>
   dsimp only at h
   obtain⟨⟨id,ob',ok'⟩,hst,he⟩:=map_some h
   cases he
   simp only[Op.operands,List.map_cons,List.map_nil]at hx
   cases hx with
   | cons h1 hx=>cases hx with
    | cons h2 hx=>cases hx with
     | nil=>
      obtain⟨w',hrun,hst'⟩:=zrE (P:=P) hs hst hok h1 h2
      have e:(execOp a.eval ⟨none,.store t x y,type,pos,after,guard⟩).run P w=.ok .skip w':=by
       simp only[execOp,Sem.run_bind,hrun,Result.andThen_ok];rfl
      refine zoh e ?_
      exact hn _ _ _ _ hst'
 .rename_i t x y z
  cases dst with
  | some d=>cases h
  | none=>
   dsimp only at h
   obtain⟨⟨id,ob',ok'⟩,hst,he⟩:=map_some h
   cases he
   simp only[Op.operands,List.map_cons,List.map_nil]at hx
   cases hx with
   | cons h1 hx=>cases hx with
    | cons h2 hx=>cases hx with
     | cons h3 hx=>cases hx with
      | nil=>
       obtain⟨w',hrun,hst'⟩:=zpS (P:=P) hs hst hok h1 h2 h3
       have e:(execOp a.eval ⟨none,.mapUpdate t x y z,type,pos,after,guard⟩).run P w=.ok .skip w':=by
        simp only[execOp,Sem.run_bind,hrun,Result.andThen_ok];rfl
       refine zoh e ?_
       exact hn _ _ _ _ hst'
 .rename_i args ts
  split at h
  .rename_i t tx d x y ht htx
   split at h
   .rename_i hus hsz
    obtain⟨⟨ob',old,ok'⟩,hst,he⟩:=map_some h
    cases he
    have hx':zB γ M [x,y] (args.toList.map a.eval):=by simpa[Op.operands,Call.operands]using hx
    cases args with
    | mk al=>
    dsimp only at hx'
    generalize hvs:al.map a.eval=vs at hx'
    have hal:(List.toArray al).map a.eval=vs.toArray:=by rw[<-hvs];simp
    cases hx' with
    | cons h1 hx=>cases hx with
     | cons h2 hx=>cases hx with
      | nil=>
       rename_i u v
       obtain⟨r,w',γ',M',hrun,hst'⟩:=zpU (P:=P) (ty:=type) hs hd hus hst hok h1 h2
       have hts:ts=#[t,tx]:=by
        apply Array.ext'
        match hq:ts,hsz with
        | ⟨[p,q]⟩,_=>simp[]at ht htx;simp[ht,htx]
       have e:(execOp a.eval ⟨some d,.call ⟨.builtin .append,⟨al⟩,ts⟩,type,pos,after,guard⟩).run P w=.ok (.value r) w':=by
        simp only[execOp,resolve,Sem.run_bind,Sem.run_pure,Result.andThen_ok,invoke,builtin,hal,hts,hrun]
       refine zb3 e ?_
       exact hn _ _ _ _ hst'
   .cases h
  .cases h
 .rename_i hne1 hne2
  split at h
  .rename_i ob' ok' d hB
   split at h
   .rename_i hus hob
    cases h
    obtain⟨v,w',γ',M',hrun,hst'⟩:=zGG (P:=P) hs ⟨some d,op,type,pos,after,guard⟩ rfl hd hus hB hok hx
    refine zb3 hrun ?_
    exact hn _ _ _ _ hst'
   .cases h
  .cases h
theorem zgs{env:Env}(henv:zau P env){ops:Array Oper}{o:Oper}{ps:List Prop}(h:yx P env C.nt ops o s=some (s',ps))(hps:All ps)
 (hs:St C s a w) {next:Act->World->Prop} {Q:Exit->Act->World->Prop} (hn:∀ a' w',St C s' a' w'->next a' w'):
 if Region.wanted o (yielded ops a.tmps) then o.wpIn (FW C.rd) 0 P a w next Q else next (a.put o.dst undef) w:=by
 obtain⟨γ,M,hs⟩:=hs
 unfold yx at h
 split at h
 .rename_i g hg hd
  have hargs:zB γ M (o.op.operands.toList.map (aev s.sl)) (o.op.operands.toList.map a.eval):=zB.map (zed hs.sl) _
  obtain⟨hw1,hw2⟩:=zjA hs hg
  split at h
  .rename_i r ok hV
   cases h
   obtain⟨p1,p2⟩:=All.append hps
   by_cases hh:g.holds
   .rw [if_pos (hw1 hh)]
    have hok:okP ok:=by
     cases ok with
     | none=>trivial
     | some p=>exact zsi p2.1 hh
    refine zGy henv hs o hd hV hok (zdT hh hargs p1) fun v M' w' hr hst=>hn _ _ ⟨γ,M',?_⟩
    cases g with
    | none=>exact hst
    | some c=>
     refine { hst with sl:=fun t=>?_ }
     have h1:=hst.sl t
     show zp γ M' (yo s.sl o.dst (.gd c r) t) _
     have h1':zp γ M' (yo s.sl o.dst r t) ((a.put o.dst v).tmps.getD t undef):=h1
     cases hdst:o.dst with
     | none=>rw[hdst]at h1';exact h1'
     | some d=>
      rw[hdst]at h1'
      by_cases e:t=d
      .subst e
       simp only[yo]at h1' ⊢
       rw[zw]at h1' ⊢
       exact .gd c r _ (fun _=>h1') (fun hc=>absurd (hh.symm.trans hc) (by simp))
      .simp only[yo]at h1' ⊢
       rw[zC _ _ e]at h1' ⊢
       exact h1'
   .rw [if_neg (by rw[hw2 hh];simp)]
    cases g with
    | none=>exact absurd trivial hh
    | some c=>
     have hc:c=false:=by cases c with|false=>rfl|true=>exact absurd rfl hh
     subst hc
     refine hn _ _ ⟨γ,M,hs.put hd (MLe.refl M) (Nat.le_refl _) (fun b _=>⟨rfl,rfl⟩) hs.mem rfl rfl rfl (.gd false r undef (fun e=>by cases e) fun _=>rfl)⟩
  .split at h
   .cases h
   .rw [if_pos (hw1 trivial)]
    obtain⟨⟨s2,ok⟩,hE,he⟩:=map_some h
    cases he
    obtain⟨p1,p2⟩:=All.append hps
    have hok:okP ok:=by
     cases ok with
     | none=>trivial
     | some p=>exact p2.1
    exact zlW hs o hd hE hok (zdT (g:=none) trivial hargs p1) fun γ' M' a' w' hst=>hn _ _ ⟨γ',M',hst⟩
 .cases h
end Go.Am
/-! Regions, statements, functions. -/
namespace Go.Am
open Go Go.RowKit
variable {P:Program}{γ γ':Nat->Option G}{M M':Mem}{C:Ctx}{s s':S}{a a':Act}{w w':World}
def zqb(P:Program)(env:Env)(nt:Nat)(ops:Array Oper):List Nat->S->Option (S×List Prop)
 | [],s=>some (s,[])
 | i::r,s=>match ops[i]? with
  | none=>none
  | some o=>match yx P env nt ops o s with
   | none=>none
   | some (s1,p1)=>match zqb P env nt ops r s1 with
    | none=>none
    | some (s2,p2)=>some (s2,p1++p2)
theorem zBi{env:Env}(henv:zau P env){ops:Array Oper}{Q:Exit->Act->World->Prop}:∀ (l:List Nat) {s s':S} {ps:List Prop} {a:Act} {w:World},
 zqb P env C.nt ops l s=some (s',ps)->All ps->St C s a w->(∀ a' w',St C s' a' w'->Q .normal a' w')->wpOpsIn (FW C.rd) 0 P ops Q l a w:=by
 intro l
 induction l with
 | nil=>intro s s' ps a w h hp hs hq;cases h;exact hq a w hs
 | cons i r ih=>
  intro s s' ps a w h hp hs hq
  simp only[zqb]at h
  simp only[wpOpsIn]
  cases ho:ops[i]? with
  | none=>rw[ho]at h;cases h
  | some o=>
   rw[ho]at h
   dsimp only at h ⊢
   cases h1:yx P env C.nt ops o s with
   | none=>rw[h1]at h;cases h
   | some q=>
    obtain⟨s1,p1⟩:=q
    rw[h1]at h
    dsimp only at h
    cases h2:zqb P env C.nt ops r s1 with
    | none=>rw[h2]at h;cases h
    | some q=>
     obtain⟨s2,p2⟩:=q
     rw[h2]at h
     cases h
     obtain⟨hp1,hp2⟩:=All.append hp
     have:=zgs henv h1 hp1 hs (next:=wpOpsIn (FW C.rd) 0 P ops Q r) (Q:=Q) fun a' w' hs'=>ih h2 hp2 hs' hq
     split
     .rename_i hw;rw[if_pos hw]at this;exact this
     .rename_i hw;rw[if_neg hw]at this;exact⟨fun _ _=>trivial,this⟩
theorem St.drew(h:St C s a w):St C s a { w with drawn:=w.drawn+1 }:=by
 obtain⟨γ,M,h⟩:=h
 exact⟨γ,M,h.sl,(fun id o ho=>(h.ob id o ho).keep (GLe.refl γ) (MLe.refl M) fun _ _ _ _=>⟨rfl,rfl⟩),h.us,h.sep,h.lo,⟨fun b o v hv=>h.mem b o v hv,h.mem.good⟩,h.le,h.new,⟨h.fr.os,h.fr.tape,h.fr.output,h.fr.size,h.fr.block,h.fr.tab⟩,h.df,h.nt,h.gl⟩
def T(P:Program)(C:Ctx)(c:Code)(s:S)(Q:Exit->S->Prop):Prop:=
 ∀ a w,St C s a w->c.wpIn (FW C.rd) 0 P (fun e a' w'=>∃ s',Q e s'/\St C s' a' w') a w
def Sub(C:Ctx)(s s':S):Prop:=∀ a w,St C s a w->St C s' a w
theorem T.weaken{c:Code}{Q:Exit->S->Prop}(h:T P C c s' Q)(k:Sub C s s'):T P C c s Q:=fun a w hs=>h a w (k a w hs)
theorem zLk{env:Env}(henv:zau P env){id:Nat}{ops:Array Oper}{Q:Exit->S->Prop}{ps:List Prop}
 (h:zqb P env C.nt ops (List.range ops.size) s=some (s',ps)) (hp:All ps) (hq:Q .normal s'):T P C (.region id ops false) s Q:=
 fun _ _ hs=>wpIn_region (zBi henv _ h hp hs fun _ _ hs'=>⟨s',hq,hs'⟩)
def zSN(K:S->Prop)(Q:Exit->S->Prop):Exit->S->Prop
 | .normal,s=>K s
 | e,s=>Q e s
def zvn(id:Nat)(Q:Exit->S->Prop):Exit->S->Prop
 | .exit id',s=>if id'=id then Q .normal s else Q (.exit id') s
 | e,s=>Q e s
theorem zQP{x y:Code}{Q:Exit->S->Prop}(h:T P C x s (zSN (fun s'=>T P C y s' Q) Q)):T P C (.seq x y) s Q:=by
 intro a w hs
 refine wpIn_seq (wpIn_mono (h a w hs) fun e a' w' ⟨s',hq,hs'⟩=>?_)
 cases e <;> first
  | exact hq a' w' hs'
  | exact⟨s',hq,hs'⟩
theorem zSS{c:Operand}{x y:Code}{Q:Exit->S->Prop}{b:Bool}(hc:aev s.sl c=.p (.bool b))(h1:b=true->T P C x s Q)(h2:b=false->T P C y s Q):T P C (.cond c x y) s Q:=by
 intro a w hs
 obtain⟨γ,M,hg⟩:=hs
 have:=zed hg.sl c
 rw[hc]at this
 exact wpIn_cond_split this.bool_inv (fun hb=>h1 hb a w ⟨γ,M,hg⟩) (fun hb=>h2 hb a w ⟨γ,M,hg⟩)
theorem zPZ{id:Nat}{c:Code}{Q:Exit->S->Prop}(h:T P C c s (zvn id Q)):T P C (.block id c) s Q:=by
 intro a w hs
 refine wpIn_block (wpIn_mono (h a w hs) fun e a' w' ⟨s',hq,hs'⟩=>?_)
 cases e <;> first
  | exact⟨s',hq,hs'⟩
  | (simp only[Exit.inBlock,zvn]at *;split <;> rename_i hi <;> simp only[hi,if_true,if_false]at hq <;> exact⟨s',hq,hs'⟩)
theorem zSP{Q:Exit->S->Prop}(h:Q .normal s):T P C .skip s Q:=fun _ _ hs=>wpIn_skip ⟨s,h,hs⟩
theorem zPY{l:Nat}{Q:Exit->S->Prop}(h:Q .normal s):T P C (.label l) s Q:=fun _ _ hs=>wpIn_label ⟨s,h,hs⟩
theorem zSR{id:Nat}{Q:Exit->S->Prop}(h:Q (.exit id) s):T P C (.exit id) s Q:=fun _ _ hs=>wpIn_exit ⟨s,h,hs⟩
theorem zQQ{Q:Exit->S->Prop}(h:Q .ret s):T P C .ret s Q:=fun _ _ hs=>wpIn_ret ⟨s,h,hs⟩
theorem zSQ{c:Code}{Q:Exit->S->Prop}(R:Nat->S->Prop)
 (round:∀ n s,R n s->T P C c s (zSN (fun s'=>∃ m s2,m<n/\R m s2/\Sub C s' s2) Q)) (n:Nat) (h:R n s):T P C (.loop c) s Q:=by
 intro a w hs
 refine zml (fun n a w=>∃ s,R n s/\St C s a w) (fun n a w ⟨s,hR,hs⟩=>wpIn_mono (round n s hR a w hs) fun e a' w' ⟨s',hq,hs'⟩=>?_) n ⟨s,h,hs⟩
 cases e <;> first
  | (obtain⟨m,s2,hm,hR2,hsub⟩:=hq;exact⟨m,hm,s2,hR2,hsub a' w' hs'⟩)
  | exact⟨s',hq,hs'⟩
def at_:Code->List Nat->Code
 | c,[]=>c
 | .seq x y,i::p=>match i with|0=>at_ x p|_=>at_ y p
 | .cond _ x y,i::p=>match i with|0=>at_ x p|_=>at_ y p
 | .block _ x,_::p=>at_ x p
 | .loop x,_::p=>at_ x p
 | .scope x,_::p=>at_ x p
 | c,_::_=>c
def zTx:Code->Array Oper
 | .region _ ops _=>ops
 | _=>#[]
def zfw(P:Program)(s:S):ResultVar->Option AV
 | .tmp t=>zfZ s.ob (s.sl t)
 | .cell t ty=>match zcL P s.ob ty [s.sl t]with
  | some (r,none)=>zfZ s.ob r
  | _=>none
def zbj(P:Program)(s:S)(rs:List ResultVar):Option AV:=
 match zN (zfw P s) rs with
 | some [r]=>some r
 | some l=>some (.tup l)
 | none=>none
def zwZ(tmps:Array Value):ResultVar->Sem Value
 | .tmp t=>pure (tmps.getD t undef)
 | .cell t ty=>do loadVar ty (<-asAddr (tmps.getD t undef))
theorem zpa(fn:Func)(tmps:Array Value):results fn tmps=(do let vs <-fn.results.mapM (zwZ tmps);pure (if h:vs.size=1 then vs[0] else .tuple vs)):=by
 have e:(fun x=>match x with|.tmp t=>pure (tmps.getD t undef)|.cell a t=>do loadVar t (<-asAddr (tmps.getD a undef)))=zwZ tmps:=by
  funext x;cases x <;> rfl
 rw[<-e]
 rfl
theorem zjj{ty:TypeId}{v u:Value}(h:(Instr.loadAt ty v).run P w=.ok u w):(do loadVar ty (<-asAddr v):Sem Value).run P w=.ok u w:=by
 unfold Instr.loadAt at h
 cases v with
 | pointer p=>
  cases p with
  | some ad=>exact h
  | none=>rw[Sem.run_bind]at h;simp[Instr.sureAddr]at h
 | _=>rw[Sem.run_bind]at h;simp[Instr.sureAddr]at h
theorem zrK(hs:StG C γ M s a w){rv:ResultVar}{r:AV}(h:zfw P s rv=some r):
 ∃ v,(zwZ a.tmps rv).run P w=.ok v w/\zp γ0 M r v:=by
 cases rv with
 | tmp t=>exact⟨_,rfl,zjf hs h (hs.sl t)⟩
 | cell t ty=>
  simp only[zfw]at h
  split at h
  .rename_i r' hl
   obtain⟨u,hu,hr⟩:=zfp (P:=P) hs hl trivial (hs.sl t)
   exact⟨u,zjj hu,zjf hs h hr⟩
  .cases h
theorem zdG(hs:StG C γ M s a w)(fn:Func){r:AV}(h:zbj P s fn.results.toList=some r):
 ∃ v,(results fn a.tmps).run P w=.ok v w/\zp γ0 M r v:=by
 have key:∀ (l:List ResultVar) (rs:List AV),zN (zfw P s) l=some rs->∃ vs:List Value,
  (l.mapM (zwZ a.tmps)).run P w=.ok vs w/\zB γ0 M rs vs:=by
  intro l
  induction l with
  | nil=>intro rs h;cases h;exact⟨[],rfl,.nil⟩
  | cons x l ih=>
   intro rs h
   simp only[zN]at h
   cases hx:zfw P s x with
   | none=>rw[hx]at h;cases h
   | some y=>
    cases hl:zN (zfw P s) l with
    | none=>rw[hx,hl]at h;cases h
    | some ys=>
     rw[hx,hl]at h;cases h
     obtain⟨v,hv,hr⟩:=zrK (P:=P) hs hx
     obtain⟨vs,hvs,hrs⟩:=ih ys hl
     refine⟨v::vs,?_,.cons hr hrs⟩
     rw[List.mapM_cons]
     simp only[Sem.run_bind,hv,Sem.run_pure,Result.andThen_ok,hvs]
 unfold zbj at h
 cases hl:zN (zfw P s) fn.results.toList with
 | none=>rw[hl]at h;cases h
 | some rs=>
  obtain⟨vs,hvs,hrs⟩:=key _ _ hl
  have hm:(fn.results.mapM (zwZ a.tmps)).run P w=.ok vs.toArray w:=by
   rw[Array.mapM_eq_mapM_toList,Sem.run_map,hvs];rfl
  have hres:(results fn a.tmps).run P w=.ok (if h:vs.toArray.size=1 then vs.toArray[0] else .tuple vs.toArray) w:=by
   rw[zpa,Sem.run_bind,hm]
   rfl
  rw[hl]at h
  refine⟨_,hres,?_⟩
  have hlen:=hrs.length
  split at h
  .rename_i r' heq
   cases heq;cases h
   cases hrs with
   | cons h1 h2=>cases h2 with|nil=>simpa using h1
  .rename_i l hne heq
   cases heq;cases h
   have hn1:vs.length≠1:=by
    intro e
    match rs,hlen with
    | [r],_=>exact hne r rfl
    | [],hl0=>simp at hl0;rw[hl0]at e;cases e
    | _::_::_,hl0=>simp at hl0;omega
   rw[dif_neg (by simpa using hn1)]
   refine .tup _ _ (by simp[hlen]) fun i hi=>?_
   have:=hrs.get i hi
   simpa[Array.getD_eq_getD_getElem?,List.getD_eq_getElem?_getD]using this
  .rename_i heq;cases heq
def zsu(args:List AV):S:={ sl:=fun i=>args.getD i .any,ob:=fun _=>none,us:=fun _=>false }
def Qfn(P:Program)(rs:List ResultVar)(r:AV):Exit->S->Prop
 | .normal,s=>zbj P s rs=some r
 | .ret,s=>zbj P s rs=some r
 | _,_=>False
theorem zHf{f:FuncId}{fn:Func}{c:Code}{args:List AV}{r:AV}(hf:P.funcs[f]?=some fn)(hb:fn.body=some c)(hn:args.length<=fn.ntmps)
 (h:∀ C:Ctx,C.nt=fn.ntmps->C.g0=γ0->T P C c (zsu args) (Qfn P fn.results.toList r)):FnP P f args r:=by
 intro M w vs hM hvs
 let C:Ctx:={ w0:=w,M0:=M,own:=fun _=>False,nt:=fn.ntmps,g0:=γ0 }
 have hlen:=hvs.length
 have hst:St C (zsu args) { tmps:=vs.toArray++Array.replicate (fn.ntmps-vs.toArray.size) undef,defers:=[] } w:=by
  refine⟨γ0,M,?_,?_,fun _ _=>rfl,?_,?_,hM.toMOk,MLe.refl M,fun _ _ _=>rfl,⟨rfl,rfl,rfl,Nat.le_refl _,fun _ _ _=>rfl,hM.tabs,fun _ h=>h.elim⟩,rfl,?_,GLe.refl γ0⟩
  .intro t
   show zp γ0 M (args.getD t .any) _
   by_cases ht:t<args.length
   .have:=hvs.get t ht
    have e:(vs.toArray++Array.replicate (fn.ntmps-vs.toArray.size) undef).getD t undef=vs.getD t undef:=by
     rw[Array.getD_eq_getD_getElem?,Array.getElem?_append_left (by simp;omega)]
     simp[List.getD_eq_getElem?_getD]
    rw[e];exact this
   .have e:args.getD t .any=.any:=by rw[List.getD_eq_getElem?_getD,List.getElem?_eq_none (by omega)];rfl
    rw[e];exact .any _
  .intro id o ho;cases ho
  .intro id id' g g' b h1;exact absurd rfl h1
  .intro id g b h1;exact absurd rfl h1
  .simp [C];omega
 refine calls_of_wp hf hb (wpIn_wide (n:=0) |>.1 <| wpIn_mono (h C rfl rfl _ w hst) fun e a' w' ⟨s',hq,γ',M',hs'⟩=>?_)
 have fin:zbj P s' fn.results.toList=some r->a'.defers=[]/\∃ v,(results fn a'.tmps).run P w'=.ok v w'/\
  ∃ u M',Ending.returned v=.returned u/\MLe M M'/\(∀ b,b<w.heap.size->M' b=M b)/\MOk M' w'/\zp γ0 M' r u/\Below w.heap.size w w':=by
  intro hr
  obtain⟨v,hv,hrel⟩:=zdG hs' fn hr
  exact⟨hs'.df,v,hv,v,M',rfl,hs'.le,fun b hb=>hs'.new b hb (fun h=>h),hs'.mem,hrel,⟨hs'.fr.os,hs'.fr.tape,hs'.fr.output,hs'.fr.size,fun b hb=>hs'.fr.block b hb (fun h=>h)⟩⟩
 cases e with
 | normal=>exact fin hq
 | ret=>exact fin hq
 | _=>exact hq.elim
end Go.Am
/-! States written out;steps from one to the next. -/
namespace Go.Am
open Go Go.RowKit
variable {P:Program}{γ γ':Nat->Option G}{M M':Mem}{C:Ctx}{s s':S}{a a':Act}{w w':World}
def look{α:Type}(t:Nat)(d:α):List (Nat×α)->α
 | []=>d
 | p::r=>match Nat.beq t p.1 with|true=>p.2|false=>look t d r
def zm{α:Type}(t:Nat):List (Nat×α)->Option α
 | []=>none
 | p::r=>match Nat.beq t p.1 with|true=>some p.2|false=>zm t r
def mkS(l:List (Nat×AV))(o:List (Nat×AObj)):S:=
 { sl:=fun t=>look t .any l,ob:=fun i=>zm i o,us:=fun i=>(zm i o).isSome }
theorem zxo{α:Type}{d:α}:∀ {l:List (Nat×α)} {t:Nat},(∃ p ∈ l,p.1=t/\look t d l=p.2)\/look t d l=d
 | [],t=>.inr rfl
 | p::r,t=>by
  unfold look
  cases h:Nat.beq t p.1 with
  | true=>exact .inl ⟨p,by simp,(Nat.eq_of_beq_eq_true h).symm,rfl⟩
  | false=>
   rcases zxo (d:=d) (l:=r) (t:=t)with⟨q,hq,h1,h2⟩|h2
   .exact .inl ⟨q,by simp[hq],h1,h2⟩
   .exact .inr h2
theorem zaw{α:Type}:∀ {l:List (Nat×α)} {t:Nat} {x:α},zm t l=some x->(t,x) ∈ l
 | [],t,x,h=>by cases h
 | p::r,t,x,h=>by
  unfold zm at h
  cases hb:Nat.beq t p.1 with
  | true=>rw[hb]at h;cases h;rw[Nat.eq_of_beq_eq_true hb];simp
  | false=>rw[hb]at h;exact List.mem_cons_of_mem _ (zaw h)
inductive zbF(ren:Nat->Option Nat):AV->AV->Prop
 | any (x:AV):zbF ren x .any
 | p (q:PV):zbF ren (.p q) (.p q)
 | pv (q q':PV) (h:∀ M v,zR M q v->zR M q' v):zbF ren (.p q) (.p q')
 | ref (id old off:Nat) (h:ren id=some old):zbF ren (.ref old off) (.ref id off)
 | arr (id old:Nat) (h:ren id=some old):zbF ren (.arr old) (.arr id)
 | mref (id old:Nat) (h:ren id=some old):zbF ren (.mref old) (.mref id)
 | nil (id:Nat) (h:ren id=none):zbF ren (.p .nil) (.arr id)
 | clo (fn:Fn) (fs cs fs' cs':List AV) (h1:fs.length=fs'.length) (h2:cs.length=cs'.length)
  (h3:∀ i,i<fs'.length->zbF ren (fs.getD i .any) (fs'.getD i .any)) (h4:∀ i,i<cs'.length->zbF ren (cs.getD i .any) (cs'.getD i .any)):zbF ren (.clo fn fs cs) (.clo fn fs' cs')
 | agg (cs cs':List AV) (h1:cs.length=cs'.length) (h2:∀ i,i<cs'.length->zbF ren (cs.getD i .any) (cs'.getD i .any)):zbF ren (.agg cs) (.agg cs')
 | tup (cs cs':List AV) (h1:cs.length=cs'.length) (h2:∀ i,i<cs'.length->zbF ren (cs.getD i .any) (cs'.getD i .any)):zbF ren (.tup cs) (.tup cs')
def zaI(γ:Nat->Option G)(ids:List (Nat×Nat))(ren:Nat->Option Nat):Nat->Option G:=fun id=>
 match zm id ids with
 | none=>none
 | some k=>match ren id with
  | some old=>γ old
  | none=>some (.arr none k 0 0)
inductive zcN(ids:List (Nat×Nat)):AV->Prop
 | any:zcN ids .any
 | p (q:PV):zcN ids (.p q)
 | ref (id off:Nat) (h:(zm id ids).isSome=true):zcN ids (.ref id off)
 | arr (id:Nat) (h:(zm id ids).isSome=true):zcN ids (.arr id)
 | mref (id:Nat) (h:(zm id ids).isSome=true):zcN ids (.mref id)
 | clo (fn:Fn) (fs cs:List AV) (h1:∀ i,i<fs.length->zcN ids (fs.getD i .any)) (h2:∀ i,i<cs.length->zcN ids (cs.getD i .any)):zcN ids (.clo fn fs cs)
 | agg (cs:List AV) (h1:∀ i,i<cs.length->zcN ids (cs.getD i .any)):zcN ids (.agg cs)
 | tup (cs:List AV) (h1:∀ i,i<cs.length->zcN ids (cs.getD i .any)):zcN ids (.tup cs)
theorem zbF.rel{ren:Nat->Option Nat}{ids:List (Nat×Nat)}{x x':AV}(h:zbF ren x x'):∀ {v:Value},zcN ids x'->zp γ M x v->zp (zaI γ ids ren) M x' v:=by
 have look:∀ {id old:Nat} {g:G},ren id=some old->(zm id ids).isSome=true->γ old=some g->zaI γ ids ren id=some g:=by
  intro id old g hr hi hg
  unfold zaI
  cases hl:zm id ids with
  | none=>rw[hl]at hi;cases hi
  | some k=>simp only[hr];exact hg
 induction h with
 | any x=>intro v _ _;exact .any v
 | p q=>intro v _ hx;exact .p _ _ hx.p_inv
 | pv q q' h=>intro v _ hx;exact .p _ _ (h _ _ hx.p_inv)
 | ref id old off h=>
  intro v hu hx
  cases hu with|ref _ _ hu=>
  obtain⟨b,hg,rfl⟩:=hx.ref_inv
  exact .ref _ _ _ (look h hu hg)
 | arr id old h=>
  intro v hu hx
  cases hu with|arr _ hu=>
  obtain⟨a,k,n,cap,hg,rfl⟩:=hx.arr_inv
  exact .arr _ _ _ _ _ (look h hu hg)
 | mref id old h=>
  intro v hu hx
  cases hu with|mref _ hu=>
  cases hx with|mref _ b hg=>
  exact .mref _ _ (look h hu hg)
 | nil id h=>
  intro v hu hx
  cases hu with|arr _ hu=>
  cases hx.p_inv
  cases hl:zm id ids with
  | none=>rw[hl]at hu;cases hu
  | some k=>
   have e:zaI γ ids ren id=some (.arr none k 0 0):=by unfold zaI;simp only[hl,h]
   exact .arr id none k 0 0 e
 | clo fn fs cs fs' cs' h1 h2 h3 h4 ih3 ih4=>
  intro v hu hx
  cases hu with|clo _ _ _ u1 u2=>
  cases hx with|clo _ _ _ vf vc hf hc g1 g2=>
  exact .clo _ _ _ _ _ (by omega) (by omega) (fun i hi=>ih3 i hi (u1 i hi) (g1 i (by omega))) (fun i hi=>ih4 i hi (u2 i hi) (g2 i (by omega)))
 | agg cs cs' h1 h2 ih=>
  intro v hu hx
  cases hu with|agg _ u1=>
  obtain⟨vs,rfl,hs,hr⟩:=hx.agg_inv
  exact .agg _ _ (by omega) fun i hi=>ih i hi (u1 i hi) (hr i (by omega))
 | tup cs cs' h1 h2 ih=>
  intro v hu hx
  cases hu with|tup _ u1=>
  obtain⟨vs,rfl,hs,hr⟩:=hx.tup_inv
  exact .tup _ _ (by omega) fun i hi=>ih i hi (u1 i hi) (hr i (by omega))
inductive zmb(ren:Nat->Option Nat):AObj->AObj->Prop
 | refl_b (e:TypeId) (mu:Bool) (l:List UInt8):zmb ren (.barr e mu l) (.barr e mu l)
 | larr (e:TypeId) (mu:Bool) (k:Nat) (R:Rows):zmb ren (.larr e mu k R) (.larr e mu k R)
 | bcv (e:TypeId) (l:List UInt8):zmb ren (.bcv e l) (.bcv e l)
 | raw (o:Obj):zmb ren (.raw o) (.raw o)
 | mp (e:Ec) (l:List (Int×Elt e)):zmb ren (.mp e l) (.mp e l)
 | bldr (T:TypeId) (a a':AV) (h:zbF ren a a'):zmb ren (.bldr T a) (.bldr T a')
 | cells (cs cs':List AV) (h1:cs.length=cs'.length) (h2:∀ i,i<cs'.length->zbF ren (cs.getD i .any) (cs'.getD i .any)):zmb ren (.cells cs) (.cells cs')
def zsh(ids:List (Nat×Nat)):AObj->Prop
 | .cells cs=>∀ i,i<cs.length->zcN ids (cs.getD i .any)
 | .bldr _ a=>zcN ids a
 | _=>True
def zlY(k:Nat):AObj->Prop
 | .barr _ _ l=>k=1/\l=[]
 | .larr _ _ k' R=>k=k'/\R.n=0
 | _=>False
theorem zHU{α:Type}{p:α->Prop}:∀ {l:List α},All (l.map p)->∀ x ∈ l,p x
 | [],_,x,hx=>by cases hx
 | y::l,h,x,hx=>by
  rcases List.mem_cons.1 hx with e|e
  .rw [e];exact h.1
  .exact zHU h.2 x e
theorem zLl{l:List (Nat×AV)}{o:List (Nat×AObj)}(ids:List (Nat×Nat))(ren:Nat->Option Nat)
 (hids:o.map (·.1)=ids.map (·.1))
 (hl:All (l.map fun p=>zbF ren (s.sl p.1) p.2/\zcN ids p.2))
 (ho:All (o.map fun p=>zsh ids p.2/\match ren p.1 with
  | some old=>∃ ob,s.ob old=some ob/\zmb ren ob p.2
  | none=>∀ k,zm p.1 ids=some k->zlY k p.2))
 (hfx:∀ i g,C.g0 i=some g->ren i=some i/\(zm i ids).isSome=true)
 (hinj:∀ i j old,ren i=some old->ren j=some old->(zm i ids).isSome=true->(zm j ids).isSome=true->i=j):
 Sub C s (mkS l o):=by
 rintro a w ⟨γ,M,h⟩
 have hkeys:∀ i,(zm i o).isSome=(zm i ids).isSome:=by
  have:∀ (o:List (Nat×AObj)) (ids:List (Nat×Nat)),o.map (·.1)=ids.map (·.1)->∀ i,(zm i o).isSome=(zm i ids).isSome:=by
   intro o
   induction o with
   | nil=>intro ids he i;cases ids with|nil=>rfl|cons _ _=>cases he
   | cons p o ih=>
    intro ids he i
    cases ids with
    | nil=>cases he
    | cons q ids=>
     simp only[List.map_cons,List.cons.injEq]at he
     unfold zm
     rw[he.1]
     cases Nat.beq i q.1 with
     | true=>rfl
     | false=>exact ih ids he.2 i
  exact this o ids hids
 have hob:∀ i ob,zm i o=some ob->zsh ids ob/\match ren i with
  | some old=>∃ ob0,s.ob old=some ob0/\zmb ren ob0 ob
  | none=>∀ k,zm i ids=some k->zlY k ob:=fun i ob hi=>zHU ho _ (zaw hi)
 have hγ:∀ i g,zaI γ ids ren i=some g->(∃ old,ren i=some old/\γ old=some g/\(zm i ids).isSome=true)\/∃ k,g=.arr none k 0 0:=by
  intro i g hg
  unfold zaI at hg
  cases hl':zm i ids with
  | none=>rw[hl']at hg;cases hg
  | some k=>
   rw[hl']at hg
   cases hr:ren i with
   | none=>rw[hr]at hg;cases hg;exact .inr ⟨k,rfl⟩
   | some old=>rw[hr]at hg;exact .inl ⟨old,rfl,hg,rfl⟩
 refine⟨zaI γ ids ren,M,?_,?_,?_,?_,?_,h.mem,h.le,h.new,h.fr,h.df,h.nt,fun i g hg=>by
  obtain⟨h1,h2⟩:=hfx i g hg
  have:=h.gl i g hg
  unfold zaI
  cases hl':zm i ids with
  | none=>rw[hl']at h2;cases h2
  | some k=>simp only[h1];exact this⟩
 .intro t
  show zp _ M (look t .any l) _
  rcases zxo (d:=AV.any) (l:=l) (t:=t)with⟨p,hp,rfl,e⟩|e
  .rw [e]
   obtain⟨h1,h2⟩:=zHU hl p hp
   exact h1.rel h2 (h.sl p.1)
  .rw [e];exact .any _
 .intro id ob hi
  have hi':zm id o=some ob:=hi
  obtain⟨hu,hc⟩:=hob id ob hi'
  have hsome:(zm id ids).isSome=true:=by rw[<-hkeys,hi'];rfl
  obtain⟨k,hk⟩:=Option.isSome_iff_exists.1 hsome
  cases hr:ren id with
  | none=>
   rw[hr]at hc
   have hem:=hc k hk
   have hg:zaI γ ids ren id=some (.arr none k 0 0):=by unfold zaI;simp only[hk,hr]
   cases ob with
   | cells cs=>exact hem.elim
   | bcv _ _=>exact hem.elim
   | bldr _ _=>exact hem.elim
   | raw _=>exact hem.elim
   | mp _ _=>exact hem.elim
   | barr e mu l'=>
    obtain⟨rfl,rfl⟩:=hem
    exact⟨none,0,hg,zdh M w e mu 1⟩
   | larr e mu k' R=>
    obtain⟨rfl,h0⟩:=hem
    exact⟨none,0,[],by rw[h0];exact hg,(fun i j hi _=>by omega),by rw[h0];exact zdh M w e mu k⟩
  | some old=>
   rw[hr]at hc
   obtain⟨ob0,ho0,hcov⟩:=hc
   have hom:=h.ob old ob0 ho0
   have hg:∀ g,γ old=some g->zaI γ ids ren id=some g:=fun g hg=>by unfold zaI;simp only[hk,hr];exact hg
   cases hcov with
   | refl_b e mu l'=>
    obtain⟨a',cap,h1,h2⟩:=hom
    exact⟨a',cap,hg _ h1,h2⟩
   | larr e mu k' R=>
    obtain⟨a',cap,vs,h1,h2,h3⟩:=hom
    exact⟨a',cap,vs,hg _ h1,h2,h3⟩
   | bcv e l'=>obtain⟨g,cur,h1,h2⟩:=hom;exact⟨g,cur,hg _ h1,h2⟩
   | mp e l'=>obtain⟨b,es,cl,h1,h2⟩:=hom;exact⟨b,es,cl,hg _ h1,h2⟩
   | raw o'=>obtain⟨b,h1,h2⟩:=hom;exact⟨b,hg _ h1,h2⟩
   | bldr T x x' hx=>obtain⟨b,v0,v1,h1,h2,h3,h4,h5,h6⟩:=hom;exact⟨b,v0,v1,hg _ h1,h2,h3,hx.rel hu h4,h5,h6⟩
   | cells cs cs' e1 e2=>
    obtain⟨b,vs,e,h1,h2,h3,h4,h5⟩:=hom
    exact⟨b,vs,e,hg _ h1,h2,by omega,fun j hj=>⟨(e2 j hj).rel (hu j hj) (h4 j (by omega)).1,(h4 j (by omega)).2⟩,h5⟩
 .intro id hi
  have hi':(zm id o).isSome=false:=hi
  rw[hkeys]at hi'
  unfold zaI
  cases hl':zm id ids with
  | none=>rfl
  | some k=>rw[hl']at hi';cases hi'
 .intro i j g g' b _ _ hg hg' hb hb'
  rcases hγ i g hg with⟨old,hr,hgo,hs1⟩|⟨k,rfl⟩
  .rcases hγ j g' hg' with⟨old',hr',hgo',hs2⟩|⟨k,rfl⟩
   . -- both are old objects that stand
    have h1:s.ob old≠none:=by
     obtain⟨ob,hob1⟩:=Option.isSome_iff_exists.1 ((hkeys i).trans hs1)
     obtain⟨_,hc⟩:=hob i ob hob1
     rw[hr]at hc
     obtain⟨ob0,ho0,_⟩:=hc
     rw[ho0];simp
    have h2:s.ob old'≠none:=by
     obtain⟨ob,hob1⟩:=Option.isSome_iff_exists.1 ((hkeys j).trans hs2)
     obtain⟨_,hc⟩:=hob j ob hob1
     rw[hr']at hc
     obtain⟨ob0,ho0,_⟩:=hc
     rw[ho0];simp
    have e:=h.sep old old' g g' b h1 h2 hgo hgo' hb hb'
    subst e
    exact hinj i j old hr hr' hs1 hs2
   .cases hb'
  .cases hb
 .intro i g b hoi hg hb
  rcases hγ i g hg with⟨old,hr,hgo,hs1⟩|⟨k,rfl⟩
  .have h1:s.ob old≠none:=by
    obtain⟨ob,hob1⟩:=Option.isSome_iff_exists.1 ((hkeys i).trans hs1)
    obtain⟨_,hc⟩:=hob i ob hob1
    rw[hr]at hc
    obtain⟨ob0,ho0,_⟩:=hc
    rw[ho0];simp
   exact h.lo old g b h1 hgo hb
  .cases hb
end Go.Am
/-! The rules that a lifted function's proof is made of. -/
namespace Go.Am
open Go Go.RowKit
variable {P:Program}{γ γ':Nat->Option G}{M M':Mem}{C:Ctx}{s s':S}{a a':Act}{w w':World}
abbrev Rn:=List (Nat×Option Nat)
def zY(rn:Rn):Nat->Option Nat:=fun id=>match zm id rn with|some (some old)=>some old|_=>none
def zol(rn:Rn):AV->Bool
 | .any=>true
 | .p _=>true
 | .ref id _=>(zY rn id).isSome
 | .arr id=>(zm id rn).isSome
 | .mref id=>(zY rn id).isSome
 | _=>false
def zok(rn:Rn):AV->Bool
 | .clo _ fs cs=>fs.all (zol rn)&&cs.all (zol rn)
 | .agg cs=>cs.all (zol rn)
 | .tup cs=>cs.all (zol rn)
 | x=>zol rn x
def zds(rn:Rn):AV->AV
 | .ref id off=>match zY rn id with|some old=>.ref old off|none=>.any
 | .arr id=>match zY rn id with|some old=>.arr old|none=>.p .nil
 | .mref id=>match zY rn id with|some old=>.mref old|none=>.any
 | x=>x
def zhS(rn:Rn):AV->AV
 | .clo fn fs cs=>.clo fn (fs.map (zds rn)) (cs.map (zds rn))
 | .agg cs=>.agg (cs.map (zds rn))
 | .tup cs=>.tup (cs.map (zds rn))
 | x=>zds rn x
def zuo(rn:Rn):AObj->AObj
 | .cells cs=>.cells (cs.map (zhS rn))
 | .bldr T a=>.bldr T (zhS rn a)
 | o=>o
def zHY(rn:Rn):AObj->Bool
 | .cells cs=>cs.all (zok rn)
 | .bldr _ a=>zok rn a
 | _=>true
def kOf:AObj->Nat
 | .barr _ _ _=>1
 | .larr _ _ k _=>k
 | _=>0
def yr(o:List (Nat×AObj)):List (Nat×Nat):=o.map fun p=>(p.1,kOf p.2)
theorem zdx{α β:Type}:∀ {o:List (Nat×α)} {r:List (Nat×β)},o.map (·.1)=r.map (·.1)->∀ i,(zm i o).isSome=(zm i r).isSome:=by
 intro o
 induction o with
 | nil=>intro r he i;cases r with|nil=>rfl|cons _ _=>cases he
 | cons p o ih=>
  intro r he i
  cases r with
  | nil=>cases he
  | cons q r=>
   simp only[List.map_cons,List.cons.injEq]at he
   unfold zm
   rw[he.1]
   cases Nat.beq i q.1 with
   | true=>rfl
   | false=>exact ih he.2 i
theorem zg4{rn:Rn}{id:Nat}(h:(zY rn id).isSome=true):(zm id rn).isSome=true:=by
 unfold zY at h
 cases hl:zm id rn with
 | none=>rw[hl]at h;cases h
 | some _=>rfl
section
variable {rn:Rn}{ids:List (Nat×Nat)}(hk:∀ i,(zm i ids).isSome=(zm i rn).isSome)
include hk
theorem zBd{x:AV}(h:zol rn x=true):zbF (zY rn) (zds rn x) x/\zcN ids x:=by
 cases x with
 | any=>exact⟨.any _,.any⟩
 | p q=>exact⟨.p q,.p q⟩
 | ref id off=>
  have h':(zY rn id).isSome=true:=h
  obtain⟨old,ho⟩:=Option.isSome_iff_exists.1 h'
  refine⟨?_,.ref _ _ (by rw[hk];exact zg4 h')⟩
  simp only[zds,ho]
  exact .ref id old off ho
 | arr id=>
  refine⟨?_,.arr _ (by rw[hk];exact h)⟩
  cases ho:zY rn id with
  | none=>simp only[zds,ho];exact .nil id ho
  | some old=>simp only[zds,ho];exact .arr id old ho
 | mref id=>
  have h':(zY rn id).isSome=true:=h
  obtain⟨old,ho⟩:=Option.isSome_iff_exists.1 h'
  refine⟨?_,.mref _ (by rw[hk];exact zg4 h')⟩
  simp only[zds,ho]
  exact .mref id old ho
 | _=>cases h
end
theorem zec{α:Type}{f:α->Bool}{l:List α}(h:l.all f=true){i:Nat}(hi:i<l.length)(d:α):f (l.getD i d)=true:=by
 rw[List.getD_eq_getElem?_getD,List.getElem?_eq_getElem hi]
 exact(List.all_eq_true.1 h) _ (List.getElem_mem hi)
theorem zeH(f:AV->AV)(hf:f .any=.any)(l:List AV)(i:Nat):(l.map f).getD i .any=f (l.getD i .any):=by
 rw[List.getD_eq_getElem?_getD,List.getD_eq_getElem?_getD,List.getElem?_map]
 cases l[i]? with
 | none=>exact hf.symm
 | some x=>rfl
theorem zKV{rn:Rn}{ids:List (Nat×Nat)}(hk:∀ i,(zm i ids).isSome=(zm i rn).isSome){x:AV}(h:zok rn x=true):zbF (zY rn) (zhS rn x) x/\zcN ids x:=by
 have lists:∀ cs:List AV,cs.all (zol rn)=true->(∀ i,i<cs.length->zbF (zY rn) ((cs.map (zds rn)).getD i .any) (cs.getD i .any))/\∀ i,i<cs.length->zcN ids (cs.getD i .any):=by
  intro cs hc
  refine⟨fun i hi=>?_,fun i hi=>(zBd hk (zec hc hi .any)).2⟩
  rw[zeH (zds rn) rfl]
  exact(zBd hk (zec hc hi .any)).1
 cases x with
 | clo fn fs cs=>
  simp only[zok,Bool.and_eq_true]at h
  obtain⟨h1,h2⟩:=lists fs h.1
  obtain⟨h3,h4⟩:=lists cs h.2
  exact⟨.clo _ _ _ _ _ (by simp) (by simp) h1 h3,.clo _ _ _ h2 h4⟩
 | agg cs=>
  obtain⟨h1,h2⟩:=lists cs h
  exact⟨.agg _ _ (by simp) h1,.agg _ h2⟩
 | tup cs=>
  obtain⟨h1,h2⟩:=lists cs h
  exact⟨.tup _ _ (by simp) h1,.tup _ h2⟩
 | any=>exact zBd hk (x:=.any) h
 | p q=>exact zBd hk (x:=.p q) h
 | ref id off=>exact zBd hk (x:=.ref id off) h
 | arr id=>exact zBd hk (x:=.arr id) h
 | mref id=>exact zBd hk (x:=.mref id) h
 | aptr _ _ _=>cases h
 | gd _ _=>cases h
def zaQ:List Nat->Bool
 | []=>true
 | x::r=>!(r.any (Nat.beq x))&&zaQ r
def zrA:Rn->List Nat
 | []=>[]
 | p::r=>match p.2 with|some old=>old::zrA r|none=>zrA r
theorem zaE{α:Type}:∀ {rn:List (Nat×α)},zaQ (rn.map (·.1))=true->∀ {i:Nat} {old:α},(i,old) ∈ rn->zm i rn=some old:=by
 intro rn
 induction rn with
 | nil=>intro _ i old h;cases h
 | cons p r ih=>
  intro h i old hi
  simp only[List.map_cons,zaQ,Bool.and_eq_true,Bool.not_eq_true']at h
  unfold zm
  rcases List.mem_cons.1 hi with e|e
  .rw [<-e];simp
  .cases hb:Nat.beq i p.1 with
   | true=>
    have hm:(r.map (·.1)).any (Nat.beq p.1)=true:=List.any_eq_true.2 ⟨i,List.mem_map.2 ⟨_,e,rfl⟩,by rw[Nat.eq_of_beq_eq_true hb];simp⟩
    rw[hm]at h;cases h.1
   | false=>exact ih h.2 e
theorem zIM:∀ {rn:Rn} {i old:Nat},(i,some old) ∈ rn->old ∈ zrA rn:=by
 intro rn
 induction rn with
 | nil=>intro i old h;cases h
 | cons p r ih=>
  intro i old h
  obtain⟨pi,po⟩:=p
  rcases List.mem_cons.1 h with e|e
  .cases e;simp[zrA]
  .cases po with
   | none=>exact ih e
   | some q=>simp only[zrA];exact List.mem_cons_of_mem _ (ih e)
theorem zsN:∀ {rn:Rn},zaQ (zrA rn)=true->∀ i j old,zY rn i=some old->zY rn j=some old->i=j:=by
 have memF:∀ {rn:Rn} {i old:Nat},zY rn i=some old->(i,some old) ∈ rn:=by
  intro rn i old h
  unfold zY at h
  split at h
  .rename_i q hq;cases h;exact zaw hq
  .cases h
 intro rn h i j old hi hj
 have h1:=memF hi
 have h2:=memF hj
 clear hi hj
 induction rn with
 | nil=>cases h1
 | cons p r ih=>
  obtain⟨pi,po⟩:=p
  cases po with
  | none=>
   rcases List.mem_cons.1 h1 with e|e
   .cases e
   .rcases List.mem_cons.1 h2 with e2|e2
    .cases e2
    .exact ih h e e2
  | some q=>
   simp only[zrA,zaQ,Bool.and_eq_true,Bool.not_eq_true']at h
   have hno:∀ k,(k,some q) ∉ r:=fun k hk=>by
    have:(zrA r).any (Nat.beq q)=true:=List.any_eq_true.2 ⟨q,zIM hk,by simp⟩
    rw[this]at h;cases h.1
   rcases List.mem_cons.1 h1 with e|e
   .cases e
    rcases List.mem_cons.1 h2 with e2|e2
    .cases e2;rfl
    .exact absurd e2 (hno j)
   .rcases List.mem_cons.1 h2 with e2|e2
    .cases e2;exact absurd e (hno i)
    .exact ih h.2 e e2
def zOD(s:S):Option Nat->Option AObj
 | some old=>s.ob old
 | none=>none
def zlZ:AObj->Bool
 | .barr _ _ []=>true
 | .larr _ _ _ (.fn 0 _)=>true
 | .larr _ _ _ (.dat _ [])=>true
 | _=>false
theorem zmH{o:AObj}(h:zlZ o=true):zlY (kOf o) o:=by
 unfold zlZ at h
 split at h
 .exact ⟨rfl,rfl⟩
 .exact ⟨rfl,rfl⟩
 .exact ⟨rfl,rfl⟩
 .cases h
def view(rn:Rn)(l:List (Nat×AV))(s:S):List AV×List (Option AObj):=
 (l.map fun p=>s.sl p.1,rn.map fun p=>zOD s p.2)
def zTg(rn:Rn):Option Nat->AObj->Option AObj
 | some _,o=>some (zuo rn o)
 | none,_=>none
def zoj(rn:Rn):Rn->List (Nat×AObj)->List (Option AObj)
 | p::r,q::o=>zTg rn p.2 q.2::zoj rn r o
 | _,_=>[]
def zwK(rn:Rn)(l:List (Nat×AV))(o:List (Nat×AObj)):List AV×List (Option AObj):=
 (l.map fun p=>zhS rn p.2,zoj rn rn o)
def zjI:Rn->List (Nat×AObj)->Bool
 | p::r,q::o=>(match p.2 with|some _=>true|none=>zlZ q.2)&&zjI r o
 | _,_=>true
def fixB(fx:List Nat)(rn:Rn):Bool:=fx.all fun i=>match zY rn i with|some j=>Nat.beq i j|none=>false
structure zbA(C:Ctx)(nt:Nat)(fx:List Nat):Prop where
 nt:C.nt=nt
 fx:∀ i g,C.g0 i=some g->i ∈ fx
def okB(fx:List Nat)(rn:Rn)(l:List (Nat×AV))(o:List (Nat×AObj)):Bool:=
 fixB fx rn&&(  l.all (fun p=>zok rn p.2)&&o.all (fun p=>zHY rn p.2)&&zaQ (zrA rn)&&zaQ (rn.map (·.1))&&zjI rn o)
theorem zyc{nt:Nat}{fx:List Nat}(hC:zbA C nt fx)(rn:Rn){l:List (Nat×AV)}{o:List (Nat×AObj)}(hk:o.map (·.1)=rn.map (·.1))(h:view rn l s=zwK rn l o)(hok:okB fx rn l o=true):Sub C s (mkS l o):=by
 unfold okB at hok
 simp only[Bool.and_eq_true]at hok
 obtain⟨hfix,⟨⟨⟨h1,h2⟩,h3⟩,h4⟩,h5⟩:=hok
 have hl:l.map (fun p=>s.sl p.1)=l.map fun p=>zhS rn p.2:=congrArg (·.1) h
 have ho:rn.map (fun p=>zOD s p.2)=zoj rn rn o:=congrArg (·.2) h
 have hids:o.map (·.1)=(yr o).map (·.1):=by simp[yr]
 have hkk:∀ i,(zm i (yr o)).isSome=(zm i rn).isSome:=fun i=>by rw[<-zdx hids i];exact zdx hk i
 refine zLl (yr o) (zY rn) hids ?_ ?_ (fun i g hg=>?_) ?_
 .clear h ho hk h2 h3 h4 h5 hids
  generalize yr o=ids at hkk
  induction l with
  | nil=>exact trivial
  | cons p l ih=>
   simp only[List.map_cons,List.cons.injEq]at hl
   simp only[List.all_cons,Bool.and_eq_true]at h1
   refine⟨?_,ih h1.2 hl.2⟩
   obtain⟨c1,c2⟩:=zKV hkk h1.1
   rw[hl.1];exact⟨c1,c2⟩
 .have h4':zaQ ((yr o).map (·.1))=true:=by rw[<-hids,hk];exact h4
  have key:∀ (o':List (Nat×AObj)) (rn':Rn),o'.map (·.1)=rn'.map (·.1)->rn'.map (fun p=>zOD s p.2)=zoj rn rn' o'->o'.all (fun p=>zHY rn p.2)=true->zjI rn' o'=true->
   (∀ x ∈ rn',x ∈ rn)->(∀ x ∈ o',x ∈ o)->
   All (o'.map fun p=>zsh (yr o) p.2/\match zY rn p.1 with
    | some old=>∃ ob,s.ob old=some ob/\zmb (zY rn) ob p.2
    | none=>∀ k,zm p.1 (yr o)=some k->zlY k p.2):=by
   intro o'
   induction o' with
   | nil=>intro rn' _ _ _ _ _ _;exact trivial
   | cons p o' ih=>
    intro rn' hk ho h2 h5 hin hio
    cases rn' with
    | nil=>cases hk
    | cons q rn'=>
     simp only[List.map_cons,List.cons.injEq,zoj]at hk ho
     simp only[List.all_cons,Bool.and_eq_true]at h2
     simp only[zjI,Bool.and_eq_true]at h5
     refine⟨?_,ih rn' hk.2 ho.2 h2.2 h5.2 (fun x hx=>hin x (by simp[hx])) (fun x hx=>hio x (by simp[hx]))⟩
     obtain⟨qi,qo⟩:=q
     obtain⟨pi,po⟩:=p
     have hpi:pi=qi:=hk.1
     subst hpi
     have hq:zm pi rn=some qo:=zaE h4 (hin (pi,qo) (by simp))
     have hu:=h2.1
     dsimp only at hu ho h5 ⊢
     cases qo with
     | none=>
      have hr:zY rn pi=none:=by unfold zY;rw[hq]
      rw[hr]
      refine⟨by cases po with|cells cs=>cases h5.1|bldr _ _=>cases h5.1|_=>exact trivial,fun k hk'=>?_⟩
      have:zm pi (yr o)=some (kOf po):=zaE h4' (List.mem_map.2 ⟨(pi,po),hio _ (by simp),rfl⟩)
      rw[this]at hk';cases hk'
      exact zmH h5.1
     | some old=>
      have hr:zY rn pi=some old:=by unfold zY;rw[hq]
      rw[hr]
      have ho1:s.ob old=some (zuo rn po):=ho.1
      cases po with
      | barr e mu l'=>exact⟨trivial,_,ho1,.refl_b _ _ _⟩
      | larr e mu k R=>exact⟨trivial,_,ho1,.larr _ _ _ _⟩
      | bcv e l'=>exact⟨trivial,_,ho1,.bcv _ _⟩
      | raw o'=>exact⟨trivial,_,ho1,.raw _⟩
      | mp e l'=>exact⟨trivial,_,ho1,.mp _ _⟩
      | bldr T x=>have hu:zok rn x=true:=hu;exact⟨(zKV hkk hu).2,_,ho1,.bldr _ _ _ (zKV hkk hu).1⟩
      | cells cs=>
       have hu:cs.all (zok rn)=true:=hu
       refine⟨fun i hi=>(zKV hkk (zec hu hi .any)).2,_,ho1,.cells _ _ (by simp) fun i hi=>?_⟩
       rw[zeH (zhS rn) rfl]
       exact(zKV hkk (zec hu hi .any)).1
  exact key o rn hk ho h2 h5 (fun x hx=>hx) (fun x hx=>hx)
 .have h1:=(List.all_eq_true.1 hfix) i (hC.fx i g hg)
  cases hr:zY rn i with
  | none=>rw[hr]at h1;cases h1
  | some j=>
   rw[hr]at h1
   have:i=j:=Nat.eq_of_beq_eq_true h1
   subst this
   exact⟨rfl,by rw[hkk];exact zg4 (by rw[hr];rfl)⟩
 .intro i j old hi hj _ _
  exact zsN h3 i j old hi hj
def zuq:Code->Option (Nat×Array Oper×Bool)
 | .region id ops d=>some (id,ops,d)
 | _=>none
theorem zup{c:Code}{r:Nat×Array Oper×Bool}(h:zuq c=some r):c=.region r.1 r.2.1 r.2.2:=by
 cases c with
 | region id ops d=>cases h;rfl
 | _=>cases h
def arun(P:Program)(env:Env)(nt:Nat)(c:Code)(s:S)(rn:Rn)(l:List (Nat×AV)):Option (Bool×List AV×List (Option AObj)×List Prop):=
 match zuq c with
 | some (_,ops,d)=>match zqb P env nt ops (List.range ops.size) s with
  | some (s',ps)=>some (d,(view rn l s').1,(view rn l s').2,ps)
  | none=>none
 | none=>none
theorem ztj{env:Env}(henv:zau P env){nt:Nat}{fx:List Nat}(hC:zbA C nt fx){c:Code}{Q:Exit->S->Prop}(rn:Rn)(l:List (Nat×AV))(o:List (Nat×AObj))(ps:List Prop)
 (h:arun P env nt c s rn l=some (false,(zwK rn l o).1,(zwK rn l o).2,ps)) (hk:(o.map (·.1),okB fx rn l o)=(rn.map (·.1),true)) (hp:All ps) (hq:∀ s',Sub C s' (mkS l o)->Q .normal s'):
 T P C c s Q:=by
 have hnt:=hC.nt
 subst hnt
 unfold arun at h
 cases hr:zuq c with
 | none=>rw[hr]at h;cases h
 | some r=>
  obtain⟨id,ops,d⟩:=r
  rw[hr]at h
  dsimp only at h
  cases ha:zqb P env C.nt ops (List.range ops.size) s with
  | none=>rw[ha]at h;cases h
  | some q=>
   obtain⟨s',ps'⟩:=q
   rw[ha]at h
   simp only[Option.some.injEq,Prod.mk.injEq]at h
   obtain⟨rfl,h1,h2,rfl⟩:=h
   have hc:=zup hr
   rw[hc]
   have hv:view rn l s'=zwK rn l o:=Prod.ext h1 h2
   simp only[Prod.mk.injEq]at hk
   exact zLk henv ha hp (hq s' (zyc hC rn hk.1 hv hk.2))
def zTH:Code->Bool|.seq _ _=>true|_=>false
def zTI:Code->Bool|.ret=>true|_=>false
theorem zhm:∀ (p q:List Nat) (c:Code),at_ (at_ c p) q=at_ c (p++q)
 | [],q,c=>by cases c <;> rfl
 | i::p,q,c=>by
  cases c <;> first
   | (simp only[List.cons_append,at_];split <;> exact zhm p q _)
   | (simp only[List.cons_append,at_];exact zhm p q _)
   | (simp only[List.cons_append,at_];cases q <;> rfl)
theorem zl3(c:Code):at_ c []=c:=by cases c <;> rfl
theorem zPV(x y:Code):at_ (.seq x y) [0]=x:=zl3 x
theorem zPU(x y:Code):at_ (.seq x y) [1]=y:=zl3 y
theorem zl4{c:Code}{p:List Nat}{Q:Exit->S->Prop}(e:zTH (at_ c p)=true)
 (h:T P C (at_ c (p++[0])) s (zSN (fun s'=>T P C (at_ c (p++[1])) s' Q) Q)):T P C (at_ c p) s Q:=by
 rw[<-zhm,<-zhm]at h
 cases hc:at_ c p with
 | seq x y=>rw[hc,zPV,zPU]at h;exact zQP h
 | _=>rw[hc]at e;cases e
theorem zBm{c:Code}{p:List Nat}{Q:Exit->S->Prop}(e:zTI (at_ c p)=true)(h:Q .ret s):T P C (at_ c p) s Q:=by
 cases hc:at_ c p with
 | ret=>exact zQQ h
 | _=>rw[hc]at e;cases e
theorem Sub.refl(s:S):Sub C s s:=fun _ _ h=>h
def zP0(P:Program)(C:Ctx)(rs:List ResultVar)(r:AV):Exit->S->Prop
 | .normal,s=>∃ s2,Sub C s s2/\zbj P s2 rs=some r
 | .ret,s=>∃ s2,Sub C s s2/\zbj P s2 rs=some r
 | _,_=>False
def yw(fn:Func):Code:=fn.body.getD .skip
theorem zj5{f:FuncId}{fn:Func}{args:List AV}{r:AV}(hf:P.funcs[f]?=some fn)(hb:(fn.body.isSome,Nat.ble args.length fn.ntmps)=(true,true))
 (h:∀ (M:Mem) (vs:List Value),zB γ0 M args vs->∀ C:Ctx,zbA C fn.ntmps []->T P C (at_ (yw fn) []) (zsu args) (zP0 P C fn.results.toList r)):FnP P f args r:=by
 intro M w vs hM hvs
 simp only[Prod.mk.injEq]at hb
 obtain⟨c,hc⟩:=Option.isSome_iff_exists.1 hb.1
 have hcb:yw fn=c:=by unfold yw;rw[hc];rfl
 refine zHf hf hc (Nat.le_of_ble_eq_true hb.2) (fun C hC hg=>?_) M w vs hM hvs
 have:=h M vs hvs C ⟨hC,fun i g hi=>by rw[hg]at hi;cases hi⟩
 rw[zl3,hcb]at this
 intro a w hs
 refine wpIn_mono (this a w hs) fun e a' w' ⟨s',hq,hs'⟩=>?_
 cases e with
 | normal=>obtain⟨s2,hsub,hr⟩:=hq;exact⟨s2,hr,hsub a' w' hs'⟩
 | ret=>obtain⟨s2,hsub,hr⟩:=hq;exact⟨s2,hr,hsub a' w' hs'⟩
 | _=>exact hq.elim
def zh1(l:List (Nat×(List AV->Option (AV×Option Prop)))):Env:=fun f zs=>
 match zm f l with
 | some g=>g zs
 | none=>none
def zn(P:Program)(f:FuncId)(g:List AV->Option (AV×Option Prop)):Prop:=∀ zs r ok,g zs=some (r,ok)->okP ok->zdE P f=true/\FnP P f zs r
def zjZ(P:Program)(f:FuncId)(g:List AV->Option (AV×Option Prop)):Prop:=∀ zs r ok,g zs=some (r,ok)->okP ok->zRm P f zs r
theorem zn.any{f:FuncId}{g:List AV->Option (AV×Option Prop)}(h:zn P f g):zjZ P f g:=fun zs r ok he hok=>.inl (h zs r ok he hok)
def zjY(P:Program)(f:FuncId)(g:List AV->Option (AV×Option Prop)):Prop:=∀ zs r ok,g zs=some (r,ok)->okP ok->ExtP P f zs r
theorem zjY.any{f:FuncId}{g:List AV->Option (AV×Option Prop)}(h:zjY P f g):zjZ P f g:=fun zs r ok he hok=>.inr (h zs r ok he hok)
theorem zbQ{l:List (Nat×(List AV->Option (AV×Option Prop)))}(h:All (l.map fun p=>zjZ P p.1 p.2)):zau P (zh1 l):=by
 intro f zs r ok he hok
 unfold zh1 at he
 cases hl:zm f l with
 | none=>rw[hl]at he;cases he
 | some g=>rw[hl]at he;exact zHU h _ (zaw hl) zs r ok he hok
theorem zlD{nt:Nat}(hC:zbA C nt []){args:List AV}{l:List (Nat×AV)}(h:view [] l (zsu args)=zwK [] l [])(hok:okB [] [] l []=true):Sub C (zsu args) (mkS l []):=
 zyc hC [] rfl h hok
end Go.Am
/-! Regions whose order is open: every order answers as the text's. -/
namespace Go.Am
open Go Go.RowKit
variable {P:Program}{γ γ':Nat->Option G}{M M':Mem}{C:Ctx}{s s':S}{a a':Act}{w w':World}
def yk:Op->Bool
 | .alloc _|.box _ _|.buildSlice _ _ _|.makeSlice _ _ _|.makeMap _ _=>true
 | _=>false
def zax:Op->Bool
 | .store _ _ _=>true
 | .call ⟨.builtin .append,_,_⟩=>true
 | .mapUpdate _ _ _ _=>true
 | op=>yk op
def zcJ:Op->Bool
 | .move _|.assign _|.pick _ _ _|.binOp _ _ _ _ _|.unOp _ _ _|.index _ _ _|.slice _ _ _ _ _|.extract _ _|.field _ _ _|.fieldAddr _ _ _|.makeFunc _ _ _|.nilCheck _|.build _ _=>true
 | _=>false
def zlS(ops:Array Oper)(y x:Oper):Bool:=
 Oper.apart ops y x&&((!zax y.op&&!zax x.op)||(!zax y.op&&yk x.op)||(zax y.op&&zcJ x.op)||(zcJ y.op&&zax x.op))
theorem zaT{α:Type}(f:Nat->α){i j:Nat}(x y:α)(h:i≠j):upd (upd f i x) j y=upd (upd f j y) i x:=by
 funext t
 by_cases h1:t=i
 .subst h1;rw[zC _ _ h,zw,zw]
 .by_cases h2:t=j
  .subst h2;rw[zw,zC _ _ h1,zw]
  .rw [zC _ _ h2,zC _ _ h1,zC _ _ h1,zC _ _ h2]
theorem zx6{ops:Array Oper}{o:Oper}{d:Nat}(h:d ∉ Oper.looksAt ops o)(σ:Nat->AV)(v:AV):
 o.op.operands.toList.map (aev (upd σ d v))=o.op.operands.toList.map (aev σ):=by
 refine List.map_congr_left fun x hx=>?_
 cases x with
 | tmp t=>
  have:t≠d:=by
   intro e;subst e
   exact h (List.mem_append_left _ (List.mem_filterMap.2 ⟨.tmp t,hx,rfl⟩))
  exact zC _ _ this
 | _=>rfl
theorem zsW{ops:Array Oper}{o:Oper}{d:Nat}(h:d ∉ Oper.looksAt ops o)(σ:Nat->AV)(v:AV):zV ops (upd σ d v) o=zV ops σ o:=by
 unfold zV
 cases hg:o.guard with
 | none=>rfl
 | some jw=>
  obtain⟨j,want⟩:=jw
  dsimp only
  cases ht:(ops[j]?).bind (·.dst)with
  | none=>rfl
  | some t=>
   have:t≠d:=by
    intro e;subst e
    exact h (List.mem_append_right _ (by simp[hg,ht]))
   dsimp only
   rw[zC _ _ this]
structure Res where
 v:AV
 ps:List Prop
def yN(P:Program)(env:Env)(nt:Nat)(ops:Array Oper)(o:Oper)(σ:Nat->AV)(ob:Nat->Option AObj):Option Res:=
 match zV ops σ o,yL nt o.dst with
 | some g,true=>
  match evV P env ob o.op (zP g o.op (o.op.operands.toList.map (aev σ))).1 with
  | some (r,ok)=>some ⟨zDH g r,(zP g o.op (o.op.operands.toList.map (aev σ))).2++oks g ok⟩
  | none=>none
 | _,_=>none
theorem zsg{env:Env}{nt:Nat}{ops:Array Oper}{o:Oper}{d:Nat}(h:d ∉ Oper.looksAt ops o)(σ:Nat->AV)(v:AV)(ob:Nat->Option AObj):
 yN P env nt ops o (upd σ d v) ob=yN P env nt ops o σ ob:=by
 unfold yN
 rw[zsW h,zx6 h]
theorem zPB{env:Env}{ob:Nat->Option AObj}{op:Op}(h:zax op=true)(xs:List AV):evV P env ob op xs=none:=by
 cases op <;> simp only[zax,yk,reduceCtorEq]at h <;> try rfl
 rename_i c
 obtain⟨callee,args,ts⟩:=c
 cases callee with
 | value f=>simp only[reduceCtorEq]at h
 | invoke r m=>simp only[reduceCtorEq]at h
 | builtin b=>cases b <;> first|rfl|(simp only[reduceCtorEq]at h)
theorem zA6{o:Oper}(h:zax o.op=false)(s:S)(xs:List AV):evE P s o xs=none:=by
 unfold evE
 split
 .rename_i heq;rw[heq]at h;cases h
 .rename_i heq;rw[heq]at h;cases h
 .rename_i heq;rw[heq]at h;cases h
 .have:evB P o.op xs=none:=by
   cases hop:o.op <;> rw[hop]at h <;> simp only[zax,yk,reduceCtorEq]at h <;> rfl
  rw[this]
theorem yh{env:Env}{nt:Nat}{ops:Array Oper}{o:Oper}(h:zax o.op=false)(s:S):
 yx P env nt ops o s=(yN P env nt ops o s.sl s.ob).map fun r=>(zcM s o.dst r.v,r.ps):=by
 unfold yx yN
 cases zV ops s.sl o with
 | none=>rfl
 | some g=>
  cases yL nt o.dst with
  | false=>rfl
  | true=>
   dsimp only
   cases evV P env s.ob o.op (zP g o.op (o.op.operands.toList.map (aev s.sl))).1 with
   | some q=>rfl
   | none=>
    dsimp only
    cases g with
    | some _=>rfl
    | none=>rw[zA6 h];rfl
def zd8(P:Program)(nt:Nat)(ops:Array Oper)(o:Oper)(s:S):Option (S×List Prop):=
 match zV ops s.sl o,yL nt o.dst with
 | some none,true=>(evE P s o (zP none o.op (o.op.operands.toList.map (aev s.sl))).1).map fun r=>(r.1,(zP none o.op (o.op.operands.toList.map (aev s.sl))).2++oks none r.2)
 | _,_=>none
theorem yc{env:Env}{nt:Nat}{ops:Array Oper}{o:Oper}(h:zax o.op=true)(s:S):yx P env nt ops o s=zd8 P nt ops o s:=by
 unfold yx zd8
 cases zV ops s.sl o with
 | none=>rfl
 | some g=>
  cases yL nt o.dst with
  | false=>cases g <;> rfl
  | true=>
   dsimp only
   rw[zPB h]
   cases g <;> rfl
def OLe(ob ob':Nat->Option AObj):Prop:=∀ i o,ob i=some o->ob' i=some o
theorem yY{ob ob':Nat->Option AObj}(h:OLe ob ob'){x z:AV}(hs:zbV ob x=some z):zbV ob' x=some z:=by
 cases x with
 | arr id=>
  dsimp only[zbV]at hs ⊢
  cases ho:ob id with
  | none=>rw[ho]at hs;cases hs
  | some o=>rw[ho]at hs;rw[h id o ho];exact hs
 | _=>exact hs
theorem zc0{α β:Type}{f g:α->Option β}(h:∀ x y,f x=some y->g x=some y):∀ {l:List α} {r:List β},zN f l=some r->zN g l=some r:=by
 intro l
 induction l with
 | nil=>intro r hr;exact hr
 | cons x l ih=>
  intro r hr
  simp only[zN]at hr ⊢
  cases hx:f x with
  | none=>rw[hx]at hr;cases hr
  | some y=>
   cases hl:zN f l with
   | none=>rw[hx,hl]at hr;cases hr
   | some ys=>rw[hx,hl]at hr;rw[h x y hx,ih hl];exact hr
theorem zEX{ob ob':Nat->Option AObj}(h:OLe ob ob'){x z:AV}(hs:zfZ ob x=some z):zfZ ob' x=some z:=by
 cases x with
 | agg cs=>
  obtain⟨zs,hz,he⟩:=map_some hs
  cases he
  show(zN (zbV ob') cs).map AV.agg=_
  rw[zc0 (fun x y=>yY h) hz];rfl
 | clo fn fs cs=>
  simp only[zfZ]at hs ⊢
  split at hs
  .rename_i fs' cs' h1 h2
   rw[zc0 (fun x y=>yY h) h1,zc0 (fun x y=>yY h) h2];exact hs
  .cases hs
 | any=>exact yY h (x:=.any) hs
 | p q=>exact yY h (x:=.p q) hs
 | ref i j=>exact yY h (x:=.ref i j) hs
 | arr i=>exact yY h (x:=.arr i) hs
 | aptr i j k=>exact yY h (x:=.aptr i j k) hs
 | mref i=>exact yY h (x:=.mref i) hs
 | tup l=>exact yY h (x:=.tup l) hs
 | gd c y=>exact yY h (x:=.gd c y) hs
theorem zKG{ob ob':Nat->Option AObj}(h:OLe ob ob'){op:Op}{xs:List AV}{r:AV×Option Prop}(he:evL P ob op xs=some r):evL P ob' op xs=some r:=by
 cases op <;> simp only[evL,reduceCtorEq]at he ⊢
 case load t x=>
  unfold zcL at he ⊢
  split at he
  .rename_i id off
   cases ho:ob id with
   | none=>rw[ho]at he;cases he
   | some o=>rw[ho]at he;rw[h id o ho];exact he
  .exact he
  .rename_i id i j
   cases ho:ob id with
   | none=>rw[ho]at he;cases he
   | some o=>rw[ho]at he;rw[h id o ho];exact he
  .cases he
 case lookup t x i ck=>
  unfold zgp at he ⊢
  split at he
  .rename_i id k
   cases ho:ob id with
   | none=>rw[ho]at he;revert he;cases zAG P t <;> intro he <;> cases he
   | some o=>rw[ho]at he;rw[h id o ho];exact he
  .cases he
 case indexAddr t x i=>
  unfold zao at he ⊢
  split at he
  .rename_i id kk i'
   cases ho:ob id with
   | none=>rw[ho]at he;revert he;cases zaZ P t <;> intro he <;> cases he
   | some o=>rw[ho]at he;rw[h id o ho];exact he
  .cases he
 case convert sT d x=>
  unfold zjE at he ⊢
  split at he
  .rename_i id
   cases ho:ob id with
   | none=>rw[ho]at he;cases he
   | some o=>rw[ho]at he;rw[h id o ho];exact he
  .exact he
  .exact he
  .cases he
 case call c=>
  obtain⟨callee,args,ts⟩:=c
  cases callee with
  | value f=>cases he
  | invoke r m=>cases he
  | builtin b=>
   cases b <;> dsimp only at he ⊢ <;> first|(cases he;done)|skip
   cases hts:ts[0]? with
   | none=>rw[hts]at he;cases he
   | some t=>
    rw[hts]at he
    dsimp only at he ⊢
    unfold zlV at he ⊢
    split at he
    .rename_i id
     cases ho:ob id with
     | none=>rw[ho]at he;cases he
     | some o=>rw[ho]at he;rw[h id o ho];exact he
    .cases he
theorem zKJ{env:Env}{ob ob':Nat->Option AObj}(h:OLe ob ob'){op:Op}{xs:List AV}{r:AV×Option Prop}(he:evC env ob op xs=some r):evC env ob' op xs=some r:=by
 unfold evC at he ⊢
 split at he
 .split at he
  .rename_i f fs cs ys
   cases hz:zN (zfZ ob) (fs++(ys++cs))with
   | none=>rw[hz]at he;cases he
   | some zs=>rw[hz]at he;rw[zc0 (fun x y=>zEX h) hz];exact he
  .cases he
 .cases he
theorem zKE{env:Env}{ob ob':Nat->Option AObj}(h:OLe ob ob'){op:Op}{xs:List AV}{r:AV×Option Prop}(he:evV P env ob op xs=some r):evV P env ob' op xs=some r:=by
 unfold evV at he ⊢
 cases h1:evP P op xs with
 | some q=>rw[h1]at he;exact he
 | none=>
  rw[h1]at he
  dsimp only at he ⊢
  cases h2:evL P ob op xs with
  | some q=>rw[h2]at he;rw[zKG h h2];exact he
  | none=>
   rw[h2]at he
   dsimp only at he
   have h3:evL P ob' op xs=none\/∃ q,evL P ob' op xs=some q:=by cases evL P ob' op xs with|none=>exact .inl rfl|some q=>exact .inr ⟨q,rfl⟩
   split at he
   .rename_i t ps
    have:evL P ob' (.build t ps) xs=none:=rfl
    rw[this];exact he
   .rename_i hne
    have hc:∃ f args ts,op=.call ⟨.value f,args,ts⟩:=by
     unfold evC at he
     split at he
     .exact ⟨_,_,_,rfl⟩
     .cases he
    obtain⟨f,args,ts,rfl⟩:=hc
    have:evL P ob' (.call ⟨.value f,args,ts⟩) xs=none:=rfl
    rw[this]
    exact zKJ h he
theorem zKD{env:Env}{ob ob':Nat->Option AObj}{op:Op}(h:zcJ op=true)(xs:List AV):evV P env ob op xs=evV P env ob' op xs:=by
 unfold evV
 cases op <;> simp only[zcJ,reduceCtorEq]at h <;> rfl
theorem zzJ{env:Env}{nt:Nat}{ops:Array Oper}{o:Oper}{σ:Nat->AV}{ob ob':Nat->Option AObj}(h:OLe ob ob'){r:Res}(he:yN P env nt ops o σ ob=some r):yN P env nt ops o σ ob'=some r:=by
 unfold yN at he ⊢
 split at he
 .rename_i g hg hd
  cases hv:evV P env ob o.op (zP g o.op (o.op.operands.toList.map (aev σ))).1 with
  | none=>rw[hv]at he;cases he
  | some q=>rw[hv]at he;rw[zKE h hv];exact he
 .cases he
theorem zio{env:Env}{nt:Nat}{ops:Array Oper}{o:Oper}{σ:Nat->AV}{ob ob':Nat->Option AObj}(h:zcJ o.op=true):yN P env nt ops o σ ob=yN P env nt ops o σ ob':=by
 unfold yN
 split
 .rw [zKD h]
 .rfl
theorem zSC{s:S}{o:Oper}{xs:List AV}{ok:Option Prop}(h:evE P s o xs=some (s',ok)):
 ∃ hv:AV,s'.sl=yo s.sl o.dst hv/\(∀ σ,evE P { s with sl:=σ } o xs=some ({ s' with sl:=yo σ o.dst hv },ok))/\(yk o.op=true->OLe s.ob s'.ob):=by
 unfold evE at h
 split at h
 .rename_i t x y hop
  split at h
  .rename_i hd
   obtain⟨r,hr,he⟩:=map_some h
   cases he
   refine⟨.any,by rw[hd];rfl,fun σ=>?_,fun hb=>by rw[hop]at hb;cases hb⟩
   unfold evE
   rw[hop]
   dsimp only
   rw[hd]
   dsimp only
   rw[hr];rfl
  .cases h
 .rename_i t x y z hop
  split at h
  .rename_i hd
   obtain⟨r,hr,he⟩:=map_some h
   cases he
   refine⟨.any,by rw[hd];rfl,fun σ=>?_,fun hb=>by rw[hop]at hb;cases hb⟩
   unfold evE
   rw[hop]
   dsimp only
   rw[hd]
   dsimp only
   rw[hr];rfl
  .cases h
 .rename_i args ts hop
  split at h
  .rename_i t tx d x y ht htx hd
   split at h
   .rename_i hu hsz
    obtain⟨r,hr,he⟩:=map_some h
    cases he
    refine⟨.arr d,by rw[hd];rfl,fun σ=>?_,fun hb=>by rw[hop]at hb;cases hb⟩
    unfold evE
    rw[hop]
    dsimp only
    rw[ht,htx,hd]
    dsimp only
    rw[hu,hsz]
    rw[hr];rfl
   .cases h
  .cases h
 .rename_i hn1 hn3 hn2
  split at h
  .rename_i ob ok' d hB hd
   split at h
   .rename_i hu ho
    cases h
    refine⟨ob.handle d,by rw[hd];rfl,fun σ=>?_,fun _ i o' hi=>?_⟩
    .unfold evE
     split
     .rename_i heq;exact absurd heq (hn1 _ _ _)
     .rename_i heq;exact absurd heq (hn3 _ _ _ _)
     .rename_i heq;exact absurd heq (hn2 _ _)
     .rw [hB,hd]
      dsimp only
      rw[hu,ho]
      rfl
    .have:i≠d:=by intro e;subst e;rw[ho]at hi;cases hi
     show upd s.ob d _ i=_
     rw[zC _ _ this];exact hi
   .cases h
  .cases h
theorem zaz{ops:Array Oper}{x y:Oper}(h:x.apart ops y=true):(∀ d,x.dst=some d->d ∉ y.looksAt ops)/\(∀ d,x.dst=some d->y.dst≠some d)/\(∀ d,y.dst=some d->d ∉ x.looksAt ops):=
 Oper.apart_spec h
theorem zbq{env:Env}{nt:Nat}{ops:Array Oper}{o:Oper}{dst:Option Nat}(h:∀ d,dst=some d->d ∉ Oper.looksAt ops o)(σ:Nat->AV)(v:AV)(ob:Nat->Option AObj):
 yN P env nt ops o (yo σ dst v) ob=yN P env nt ops o σ ob:=by
 cases dst with
 | none=>rfl
 | some d=>exact zsg (h d rfl) σ v ob
theorem zbw{σ:Nat->AV}{d d':Option Nat}(v v':AV)(h:∀ x,d=some x->d'≠some x):yo (yo σ d v) d' v'=yo (yo σ d' v') d v:=by
 cases d with
 | none=>rfl
 | some x=>
  cases d' with
  | none=>rfl
  | some x'=>exact zaT σ v v' (fun e=>h x rfl (by rw[e]))
theorem zar{ops:Array Oper}{o:Oper}{dst:Option Nat}(h:∀ d,dst=some d->d ∉ Oper.looksAt ops o)(σ:Nat->AV)(v:AV):zV ops (yo σ dst v) o=zV ops σ o:=by
 cases dst with
 | none=>rfl
 | some d=>exact zsW (h d rfl) σ v
theorem yQ{ops:Array Oper}{o:Oper}{dst:Option Nat}(h:∀ d,dst=some d->d ∉ Oper.looksAt ops o)(σ:Nat->AV)(v:AV):
 o.op.operands.toList.map (aev (yo σ dst v))=o.op.operands.toList.map (aev σ):=by
 cases dst with
 | none=>rfl
 | some d=>exact zx6 (h d rfl) σ v
theorem za9{nt:Nat}{ops:Array Oper}{o:Oper}{p:List Prop}(h:zd8 P nt ops o s=some (s',p)):
 ∃ hv:AV,s'.sl=yo s.sl o.dst hv/\(∀ σ,zV ops σ o=zV ops s.sl o->o.op.operands.toList.map (aev σ)=o.op.operands.toList.map (aev s.sl)->
  zd8 P nt ops o { s with sl:=σ }=some ({ s' with sl:=yo σ o.dst hv },p))/\(yk o.op=true->OLe s.ob s'.ob):=by
 unfold zd8 at h
 split at h
 .rename_i hg hd
  obtain⟨⟨s2,ok⟩,hE,he⟩:=map_some h
  cases he
  obtain⟨hv,e1,e2,e3⟩:=zSC hE
  refine⟨hv,e1,fun σ h1 h2=>?_,e3⟩
  unfold zd8
  rw[show zV ops ({ s with sl:=σ }:S).sl o=some none from h1.trans hg,hd]
  show(evE P { s with sl:=σ } o (zP none o.op (o.op.operands.toList.map (aev σ))).1).map (fun r=>(r.1,(zP none o.op (o.op.operands.toList.map (aev σ))).2++oks none r.2))=_
  rw[h2,e2 σ]
  rfl
 .cases h
theorem swap{env:Env}{nt:Nat}{ops:Array Oper}{x y:Oper}{s s1 s2:S}{p1 p2:List Prop}(hi:zlS ops y x=true)
 (h1:yx P env nt ops y s=some (s1,p1)) (h2:yx P env nt ops x s1=some (s2,p2)):
 ∃ s1',yx P env nt ops x s=some (s1',p2)/\yx P env nt ops y s1'=some (s2,p1):=by
 unfold zlS at hi
 rw[Bool.and_eq_true]at hi
 obtain⟨hap,hk⟩:=hi
 obtain⟨a1,a2,a3⟩:=zaz hap
 cases ey:zax y.op with
 | false=>
  rw[yh ey]at h1
  obtain⟨ry,hy,he⟩:=map_some h1
  cases he
  cases ex:zax x.op with
  | false=>
   rw[yh ex]at h2
   obtain⟨rx,hx,he⟩:=map_some h2
   cases he
   have hx':yN P env nt ops x s.sl s.ob=some rx:=by
    rw[<-zbq (P:=P) (env:=env) (nt:=nt) a1 s.sl ry.v s.ob];exact hx
   refine⟨zcM s x.dst rx.v,by rw[yh ex,hx'];rfl,?_⟩
   rw[yh ey]
   have:yN P env nt ops y (yo s.sl x.dst rx.v) s.ob=some ry:=by
    rw[zbq (P:=P) a3];exact hy
   show(yN P env nt ops y (yo s.sl x.dst rx.v) s.ob).map _=_
   rw[this]
   simp only[Option.map_some,zcM]
   rw[zbw rx.v ry.v (fun d hd e=>a2 d e hd)]
  | true=>
   rw[yc ex]at h2
   obtain⟨hv,e1,e2,e3⟩:=za9 h2
   have hs:=e2 s.sl (zar a1 s.sl ry.v).symm (yQ a1 s.sl ry.v).symm
   refine⟨{ s2 with sl:=yo s.sl x.dst hv },by rw[yc ex];exact hs,?_⟩
   rw[yh ey]
   have hmem:yN P env nt ops y s.sl s2.ob=some ry:=by
    cases hp:zcJ y.op with
    | true=>rw[zio (ob':=s.ob) hp];exact hy
    | false=>
     have hb:yk x.op=true:=by
      rw[ey,ex,hp]at hk
      simpa using hk
     exact zzJ (e3 hb) hy
   have:yN P env nt ops y (yo s.sl x.dst hv) s2.ob=some ry:=by
    rw[zbq (P:=P) a3];exact hmem
   show(yN P env nt ops y (yo s.sl x.dst hv) s2.ob).map _=_
   rw[this]
   simp only[Option.map_some,zcM]
   have e4:yo (yo s.sl x.dst hv) y.dst ry.v=s2.sl:=by
    rw[e1]
    show _=yo (yo s.sl y.dst ry.v) x.dst hv
    rw[zbw hv ry.v (fun d hd e=>a2 d e hd)]
   rw[e4]
 | true=>
  have hp:zcJ x.op=true:=by
   rw[ey]at hk
   cases hp:zcJ x.op with
   | true=>rfl
   | false=>
    have hpy:zcJ y.op=false:=by cases hop:y.op <;> rw[hop]at ey <;> first|rfl|(simp only[zax,yk,reduceCtorEq]at ey)
    rw[hp,hpy]at hk
    simp at hk
  have ex:zax x.op=false:=by cases hop:x.op <;> rw[hop]at hp <;> first|rfl|(simp only[zcJ,reduceCtorEq]at hp)
  rw[yc ey]at h1
  rw[yh ex]at h2
  obtain⟨rx,hx,he⟩:=map_some h2
  cases he
  obtain⟨hv,e1,e2,_⟩:=za9 h1
  have hx':yN P env nt ops x s.sl s.ob=some rx:=by
   rw[zio (ob':=s1.ob) hp,<-zbq (P:=P) (env:=env) (nt:=nt) a1 s.sl hv s1.ob,<-e1];exact hx
  refine⟨zcM s x.dst rx.v,by rw[yh ex,hx'];rfl,?_⟩
  rw[yc ey]
  have:=e2 (yo s.sl x.dst rx.v) (zar a3 s.sl rx.v) (yQ a3 s.sl rx.v)
  refine this.trans ?_
  simp only[zcM]
  rw[e1,zbw rx.v hv (fun d hd e=>a2 d e hd)]
end Go.Am
/-! Which objects an operation looks at: those that its arguments name. -/
namespace Go.Am
open Go Go.RowKit
variable {P:Program}{γ γ':Nat->Option G}{M M':Mem}{C:Ctx}{s s':S}{a a':Act}{w w':World}
def RLe(γ:Nat->Option G)(ob ob':Nat->Option AObj):Prop:=∀ i,γ i≠none->∀ o,ob i=some o->ob' i=some o
theorem zB.head{x:AV}{xs:List AV}{vs:List Value}(h:zB γ M (x::xs) vs):∃ v,zp γ M x v:=by cases h with|cons h _=>exact⟨_,h⟩
theorem zB.tail{x:AV}{xs:List AV}{vs:List Value}(h:zB γ M (x::xs) vs):∃ vs',zB γ M xs vs':=by cases h with|cons _ h=>exact⟨_,h⟩
theorem zFP{id off:Nat}{v:Value}(h:zp γ M (.ref id off) v):γ id≠none:=by obtain⟨b,hb,_⟩:=h.ref_inv;rw[hb];simp
theorem zdd{id:Nat}{v:Value}(h:zp γ M (.arr id) v):γ id≠none:=by obtain⟨_,_,_,_,hb,_⟩:=h.arr_inv;rw[hb];simp
theorem zAE{id:Nat}{v:Value}(h:zp γ M (.mref id) v):γ id≠none:=by cases h with|mref _ b hb=>rw[hb];simp
theorem zAF{id i j:Nat}{v:Value}(h:zp γ M (.aptr id i j) v):γ id≠none:=by obtain⟨_,_,_,_,hb,_⟩:=h.aptr_inv;rw[hb];simp
theorem yH{ob ob':Nat->Option AObj}(h:RLe γ ob ob'){x z:AV}{v:Value}(hx:zp γ M x v)(hs:zbV ob x=some z):zbV ob' x=some z:=by
 cases x with
 | arr id=>
  dsimp only[zbV]at hs ⊢
  cases ho:ob id with
  | none=>rw[ho]at hs;cases hs
  | some o=>rw[ho]at hs;rw[h id (zdd hx) o ho];exact hs
 | _=>exact hs
theorem zch{α β:Type}{f g:α->Option β}{q:α->Prop}(h:∀ x y,q x->f x=some y->g x=some y):∀ {l:List α} {r:List β},(∀ x ∈ l,q x)->zN f l=some r->zN g l=some r:=by
 intro l
 induction l with
 | nil=>intro r _ hr;exact hr
 | cons x l ih=>
  intro r hq hr
  simp only[zN]at hr ⊢
  cases hx:f x with
  | none=>rw[hx]at hr;cases hr
  | some y=>
   cases hl:zN f l with
   | none=>rw[hx,hl]at hr;cases hr
   | some ys=>rw[hx,hl]at hr;rw[h x y (hq x (by simp)) hx,ih (fun z hz=>hq z (by simp[hz])) hl];exact hr
theorem zNX{xs:List AV}{vs:List Value}(h:zB γ M xs vs):∀ x ∈ xs,∃ v,zp γ M x v:=by
 induction h with
 | nil=>intro x hx;cases hx
 | cons h _ ih=>
  intro x hx
  rcases List.mem_cons.1 hx with e|e
  .rw [e];exact⟨_,h⟩
  .exact ih x e
theorem zge{cs:List AV}{p:Nat->Value}(h:∀ i,i<cs.length->zp γ M (cs.getD i .any) (p i)):∀ x ∈ cs,∃ v,zp γ M x v:=by
 intro x hx
 obtain⟨i,hi,rfl⟩:=List.mem_iff_getElem.1 hx
 have:=h i hi
 rw[List.getD_eq_getElem?_getD,List.getElem?_eq_getElem hi]at this
 exact⟨_,this⟩
theorem zz3{ob ob':Nat->Option AObj}(h:RLe γ ob ob'){x z:AV}{v:Value}(hx:zp γ M x v)(hs:zfZ ob x=some z):zfZ ob' x=some z:=by
 cases x with
 | agg cs=>
  obtain⟨zs,hz,he⟩:=map_some hs
  cases he
  obtain⟨vs,rfl,hsz,hr⟩:=hx.agg_inv
  show(zN (zbV ob') cs).map AV.agg=_
  rw[zch (q:=fun x=>∃ v,zp γ M x v) (fun x y ⟨v,hv⟩=>yH h hv) (zge hr) hz];rfl
 | clo fn fs cs=>
  simp only[zfZ]at hs ⊢
  split at hs
  .rename_i fs' cs' h1 h2
   cases hx with
   | clo _ _ _ vf vc hf hc g1 g2=>
    rw[zch (q:=fun x=>∃ v,zp γ M x v) (fun x y ⟨v,hv⟩=>yH h hv) (zge g1) h1,zch (q:=fun x=>∃ v,zp γ M x v) (fun x y ⟨v,hv⟩=>yH h hv) (zge g2) h2];exact hs
  .cases hs
 | any=>exact yH h (x:=.any) hx hs
 | p q=>exact yH h (x:=.p q) hx hs
 | ref i j=>exact yH h (x:=.ref i j) hx hs
 | arr i=>exact yH h (x:=.arr i) hx hs
 | aptr i j k=>exact yH h (x:=.aptr i j k) hx hs
 | mref i=>exact yH h (x:=.mref i) hx hs
 | tup l=>exact yH h (x:=.tup l) hx hs
 | gd c y=>exact yH h (x:=.gd c y) hx hs
theorem zGD{ob ob':Nat->Option AObj}(h:RLe γ ob ob'){op:Op}{xs:List AV}{vs:List Value}(hx:zB γ M xs vs){r:AV×Option Prop}(he:evL P ob op xs=some r):evL P ob' op xs=some r:=by
 cases op <;> simp only[evL,reduceCtorEq]at he ⊢
 case load t x=>
  unfold zcL at he ⊢
  split at he
  .rename_i id off
   obtain⟨v,hv⟩:=hx.head
   cases ho:ob id with
   | none=>rw[ho]at he;cases he
   | some o=>rw[ho]at he;rw[h id (zFP hv) o ho];exact he
  .exact he
  .rename_i id i j
   obtain⟨v,hv⟩:=hx.head
   cases ho:ob id with
   | none=>rw[ho]at he;cases he
   | some o=>rw[ho]at he;rw[h id (zAF hv) o ho];exact he
  .cases he
 case lookup t x i ck=>
  unfold zgp at he ⊢
  split at he
  .rename_i id k
   obtain⟨v,hv⟩:=hx.head
   cases ho:ob id with
   | none=>rw[ho]at he;revert he;cases zAG P t <;> intro he <;> cases he
   | some o=>rw[ho]at he;rw[h id (zAE hv) o ho];exact he
  .cases he
 case indexAddr t x i=>
  unfold zao at he ⊢
  split at he
  .rename_i id kk i'
   obtain⟨v,hv⟩:=hx.head
   cases ho:ob id with
   | none=>rw[ho]at he;revert he;cases zaZ P t <;> intro he <;> cases he
   | some o=>rw[ho]at he;rw[h id (zdd hv) o ho];exact he
  .cases he
 case convert sT d x=>
  unfold zjE at he ⊢
  split at he
  .rename_i id
   obtain⟨v,hv⟩:=hx.head
   cases ho:ob id with
   | none=>rw[ho]at he;cases he
   | some o=>rw[ho]at he;rw[h id (zdd hv) o ho];exact he
  .exact he
  .exact he
  .cases he
 case call c=>
  obtain⟨callee,args,ts⟩:=c
  cases callee with
  | value f=>cases he
  | invoke r m=>cases he
  | builtin b=>
   cases b <;> dsimp only at he ⊢ <;> first|(cases he;done)|skip
   cases hts:ts[0]? with
   | none=>rw[hts]at he;cases he
   | some t=>
    rw[hts]at he
    dsimp only at he ⊢
    unfold zlV at he ⊢
    split at he
    .rename_i id
     obtain⟨v,hv⟩:=hx.head
     cases ho:ob id with
     | none=>rw[ho]at he;cases he
     | some o=>rw[ho]at he;rw[h id (zdd hv) o ho];exact he
    .cases he
theorem zGF{env:Env}{ob ob':Nat->Option AObj}(h:RLe γ ob ob'){op:Op}{xs:List AV}{vs:List Value}(hx:zB γ M xs vs){r:AV×Option Prop}(he:evC env ob op xs=some r):evC env ob' op xs=some r:=by
 unfold evC at he ⊢
 split at he
 .split at he
  .rename_i f fs cs ys
   have hall:∀ x ∈ fs++(ys++cs),∃ v,zp γ M x v:=by
    obtain⟨v,hv⟩:=hx.head
    obtain⟨vs',ht⟩:=hx.tail
    cases hv with
    | clo _ _ _ vf vc hf hc g1 g2=>
     intro x hx
     rcases List.mem_append.1 hx with h1|h1
     .exact zge g1 x h1
     .rcases List.mem_append.1 h1 with h2|h2
      .exact zNX ht x h2
      .exact zge g2 x h2
   cases hz:zN (zfZ ob) (fs++(ys++cs))with
   | none=>rw[hz]at he;cases he
   | some zs=>rw[hz]at he;rw[zch (q:=fun x=>∃ v,zp γ M x v) (fun x y ⟨v,hv⟩=>zz3 h hv) hall hz];exact he
  .cases he
 .cases he
theorem zGz{env:Env}{ob ob':Nat->Option AObj}(h:RLe γ ob ob'){op:Op}{xs:List AV}{vs:List Value}(hx:zB γ M xs vs){r:AV×Option Prop}(he:evV P env ob op xs=some r):evV P env ob' op xs=some r:=by
 unfold evV at he ⊢
 cases h1:evP P op xs with
 | some q=>rw[h1]at he;exact he
 | none=>
  rw[h1]at he
  dsimp only at he ⊢
  cases h2:evL P ob op xs with
  | some q=>rw[h2]at he;rw[zGD h hx h2];exact he
  | none=>
   rw[h2]at he
   dsimp only at he
   split at he
   .rename_i t ps
    have:evL P ob' (.build t ps) xs=none:=rfl
    rw[this];exact he
   .rename_i hne
    have hc:∃ f args ts,op=.call ⟨.value f,args,ts⟩:=by
     unfold evC at he
     split at he
     .exact ⟨_,_,_,rfl⟩
     .cases he
    obtain⟨f,args,ts,rfl⟩:=hc
    have:evL P ob' (.call ⟨.value f,args,ts⟩) xs=none:=rfl
    rw[this]
    exact zGF h hx he
end Go.Am
/-! More pairs of operations of which neither sees the other. -/
namespace Go.Am
open Go Go.RowKit
variable {P:Program}{γ γ':Nat->Option G}{M M':Mem}{C:Ctx}{s s':S}{a a':Act}{w w':World}
theorem zyb{ob ob':Nat->Option AObj}{x:AV}(h:∀ i,(x=.arr i)->∀ o,ob i=some o->ob' i=some o){e:TypeId}{r:Option Nat×Option AObj}(he:zjX ob e x=some r):zjX ob' e x=some r:=by
 unfold zjX at he ⊢
 split at he
 .exact he
 .rename_i id
  cases ho:ob id with
  | none=>rw[ho]at he;cases he
  | some o=>rw[ho]at he;rw[h id rfl o ho];exact he
 .cases he
theorem zmR{ob ob':Nat->Option AObj}{x:AV}(h:∀ i,(x=.arr i)->∀ o,ob i=some o->ob' i=some o){t:TypeId}{r:List UInt8}(he:zti P ob t x=some r):zti P ob' t x=some r:=by
 unfold zti at he ⊢
 split at he
 .exact he
 .exact he
 .exact he
 .rename_i id
  cases ho:ob id with
  | none=>rw[ho]at he;cases he
  | some o=>rw[ho]at he;rw[h id rfl o ho];exact he
 .cases he
theorem zmP{ob ob':Nat->Option AObj}{x:AV}(h:∀ i,(x=.arr i)->∀ o,ob i=some o->ob' i=some o){t:TypeId}{k:Nat}{r:Rows}(he:zth P ob t k x=some r):zth P ob' t k x=some r:=by
 unfold zth at he ⊢
 split at he
 .exact he
 .exact he
 .rename_i id
  cases ho:ob id with
  | none=>rw[ho]at he;cases he
  | some o=>rw[ho]at he;rw[h id rfl o ho];exact he
 .cases he
theorem zgq{ob ob':Nat->Option AObj}{t tx:TypeId}{x y:AV}(hx:∀ i,(x=.arr i)->∀ o,ob i=some o->ob' i=some o)(hy:∀ i,(y=.arr i)->∀ o,ob i=some o->ob' i=some o)
 {r:AObj×Option Nat×Option Prop} (he:zaL P ob t tx [x,y]=some r):zaL P ob' t tx [x,y]=some r:=by
 unfold zaL at he ⊢
 dsimp only at he ⊢
 cases hS:zdn P t with
 | none=>rw[hS]at he;cases he
 | some e=>
  rw[hS]at he
  dsimp only at he ⊢
  cases hb:zjX ob e x with
  | none=>
   rw[hb]at he
   split at he
   .rename_i h4;cases h4
   .cases he
  | some bb=>
   rw[zyb hx hb]
   rw[hb]at he
   split at he
   .rename_i k' b' z old bo h1 h2 h3 h4
    cases h4
    split at he
    .split at he
     .split at he
      .rename_i hsrc;rw[zmR hy hsrc];exact he
      .rename_i hsrc;rw[zmR hy hsrc];exact he
      .cases he
     .split at he
      .rename_i hsrc;rw[zmP hy hsrc];exact he
      .rename_i hsrc;rw[zmP hy hsrc];exact he
      .cases he
    .cases he
   .cases he
end Go.Am
/-! The wider independence: births and appends among operations that yield values, and among births. -/
namespace Go.Am
open Go Go.RowKit
variable {P:Program}{γ γ':Nat->Option G}{M M':Mem}{C:Ctx}{s s':S}{a a':Act}{w w':World}
def za3:Op->Bool
 | .call ⟨.builtin .append,_,_⟩=>true
 | _=>false
def zdw(op:Op):Bool:=yk op||za3 op
def zQ(s:S)(o:Oper):List AV:=o.op.operands.toList.map (aev s.sl)
structure zbE(s:S)(o:Oper):Prop where
 free:∀ d,s.us d=false->s.ob d=none
 rel:All (zP none o.op (zQ s o)).2->∃ γ M vs,zB γ M (zP none o.op (zQ s o)).1 vs/\∀ d,s.us d=false->γ d=none
theorem St.sem(h:St C s a w)(o:Oper):zbE s o:=by
 obtain⟨γ,M,h⟩:=h
 refine⟨fun d hd=>?_,fun hp=>⟨γ,M,_,zdT (g:=none) trivial (zB.map (zed h.sl) _) hp,fun d hd=>h.us d hd⟩⟩
 cases ho:s.ob d with
 | none=>rfl
 | some o'=>
  obtain⟨g,hg⟩:=(h.ob d o' ho).ghost
  rw[h.us d hd]at hg;cases hg
theorem zb8{nt:Nat}{ops:Array Oper}{o:Oper}{p:List Prop}(hm:zdw o.op=true)(h:zd8 P nt ops o s=some (s',p)):
 zV ops s.sl o=some none/\∃ d,o.dst=some d/\yL nt (some d)=true/\s.us d=false/\
  ((yk o.op=true/\∃ ob ok,evB P o.op (zP none o.op (zQ s o)).1=some (ob,ok)/\s.ob d=none/\s'=yI s d ob/\p=(zP none o.op (zQ s o)).2++oks none ok)\/
   (∃ as ts t tx x y r, o.op = .call ⟨.builtin .append, as, ts⟩ ∧ ts[0]? = some t ∧ ts[1]? = some tx ∧ ts.size = 2 ∧ (zP none o.op (zQ s o)).1 = [x, y] ∧ zaL P s.ob t tx [x, y] = some r ∧
      s'=zae s d r.2.1 r.1/\p=(zP none o.op (zQ s o)).2++oks none r.2.2)):=by
 unfold zd8 at h
 split at h
 .rename_i hg hd
  obtain⟨⟨s2,ok⟩,hE,he⟩:=map_some h
  cases he
  refine⟨hg,?_⟩
  unfold evE at hE
  split at hE
  .rename_i hop;rw[hop]at hm;cases hm
  .rename_i hop;rw[hop]at hm;cases hm
  .rename_i as ts hop
   split at hE
   .rename_i t tx d x y ht htx hdst hxs
    split at hE
    .rename_i hu hsz
     obtain⟨r,hr,he⟩:=map_some hE
     cases he
     exact⟨d,hdst,by rw[<-hdst];exact hd,hu,.inr ⟨as,ts,t,tx,x,y,r,hop,ht,htx,hsz,hxs,hr,rfl,rfl⟩⟩
    .cases hE
   .cases hE
  .rename_i hn1 hn2
   split at hE
   .rename_i ob ok' d hB hdst
    split at hE
    .rename_i hu ho
     cases hE
     refine⟨d,hdst,by rw[<-hdst];exact hd,hu,.inl ⟨?_,ob,ok,hB,ho,rfl,rfl⟩⟩
     unfold zdw at hm
     rw[Bool.or_eq_true]at hm
     rcases hm with hm|hm
     .exact hm
     .exfalso
      unfold za3 at hm
      split at hm
      .rename_i as ts hop;exact hn2 as ts hop
      .cases hm
    .cases hE
   .cases hE
 .cases h
theorem zgr{nt:Nat}{ops:Array Oper}{o:Oper}{d:Nat}{ob:AObj}{ok:Option Prop}(hg:zV ops s.sl o=some none)(hd:o.dst=some d)(hdk:yL nt (some d)=true)(hu:s.us d=false)
 (hb:yk o.op=true) (hB:evB P o.op (zP none o.op (zQ s o)).1=some (ob,ok)) (ho:s.ob d=none):
 zd8 P nt ops o s=some (yI s d ob,(zP none o.op (zQ s o)).2++oks none ok):=by
 unfold zd8
 rw[hg,hd,hdk]
 show(evE P s o (zP none o.op (zQ s o)).1).map _=_
 unfold evE
 split
 .rename_i hop;rw[hop]at hb;cases hb
 .rename_i hop;rw[hop]at hb;cases hb
 .rename_i hop;rw[hop]at hb;cases hb
 .rw [hB,hd]
  dsimp only
  rw[hu,ho]
  rfl
theorem zjG{nt:Nat}{ops:Array Oper}{o:Oper}{d:Nat}{as:Array Operand}{ts:Array TypeId}{t tx:TypeId}{x y:AV}{r:AObj×Option Nat×Option Prop}(hg:zV ops s.sl o=some none)(hd:o.dst=some d)
 (hdk:yL nt (some d)=true) (hu:s.us d=false) (hop:o.op=.call ⟨.builtin .append,as,ts⟩) (h1:ts[0]?=some t) (h2:ts[1]?=some tx) (h3:ts.size=2)
 (hxs:(zP none o.op (zQ s o)).1=[x,y]) (hr:zaL P s.ob t tx [x,y]=some r):
 zd8 P nt ops o s=some (zae s d r.2.1 r.1,(zP none o.op (zQ s o)).2++oks none r.2.2):=by
 unfold zd8
 rw[hg,hd,hdk]
 show(evE P s o (zP none o.op (zQ s o)).1).map _=_
 rw[hxs]
 unfold evE
 rw[hop]
 simp only
 rw[h1,h2,hd]
 simp only[hu,h3,hr]
 unfold zQ
 rw[hop]
 rfl
theorem zbJ{op:Op}(h:zdw op=true):zax op=true:=by
 unfold zdw at h
 rw[Bool.or_eq_true]at h
 rcases h with h|h
 .cases op <;> first|rfl|(simp only[yk,reduceCtorEq]at h)
 .unfold za3 at h
  split at h
  .rfl
  .cases h
theorem zuL{ops:Array Oper}{o:Oper}(h:o.guard=none)(σ:Nat->AV):zV ops σ o=some none:=by unfold zV;rw[h]
theorem zxn{d:Nat}{old:Option Nat}{o:AObj}{ob:Nat->Option AObj}(hd:γ d=none):RLe γ (upd (zbh ob old) d (some o)) ob:=by
 intro i hi o' ho
 have hne:i≠d:=by intro e;subst e;exact hi hd
 rw[zC _ _ hne]at ho
 cases old with
 | none=>exact ho
 | some id=>
  unfold zbh at ho
  by_cases e:i=id
  .subst e;dsimp only at ho;rw[zw]at ho;cases ho
  .dsimp only at ho;rw[zC _ _ e]at ho;exact ho
theorem zNw{env:Env}{nt:Nat}{ops:Array Oper}{x y:Oper}{s s1 s2:S}{p1 p2:List Prop}(hap:Oper.apart ops y x=true)(hy:zdw y.op=true)(ex:zax x.op=false)(hxg:x.guard=none)(hsem:zbE s x)
 (h1:yx P env nt ops y s=some (s1,p1)) (h2:yx P env nt ops x s1=some (s2,p2)) (hp:All p2):
 ∃ s1',yx P env nt ops x s=some (s1',p2)/\yx P env nt ops y s1'=some (s2,p1):=by
 obtain⟨a1,a2,a3⟩:=zaz hap
 rw[yc (zbJ hy)]at h1
 rw[yh ex]at h2
 obtain⟨rx,hx,he⟩:=map_some h2
 cases he
 obtain⟨hv,e1,e2,_⟩:=za9 h1
 obtain⟨hg,d,hdst,hdk,hu,hform⟩:=zb8 hy h1
 have hargs:zQ s1 x=zQ s x:=by unfold zQ;rw[e1];exact yQ a1 s.sl hv
 have hback:∀ γ:Nat->Option G,γ d=none->RLe γ s1.ob s.ob:=by
  intro γ hγ
  rcases hform with⟨_,o,ok,_,ho,hs1,_⟩|⟨_,_,_,_,_,_,r,_,_,_,_,_,_,hs1,_⟩
  .rw [hs1];exact zxn (old:=none) hγ
  .rw [hs1];exact zxn hγ
 have hx':yN P env nt ops x s.sl s.ob=some rx:=by
  unfold yN at hx ⊢
  rw[zuL hxg]at hx ⊢
  have ea:x.op.operands.toList.map (aev s1.sl)=x.op.operands.toList.map (aev s.sl):=hargs
  rw[ea]at hx
  split at hx
  .rename_i g hg1 hd1
   cases hg1
   cases hev:evV P env s1.ob x.op (zP none x.op (x.op.operands.toList.map (aev s.sl))).1 with
   | none=>rw[hev]at hx;cases hx
   | some q=>
    rw[hev]at hx
    obtain⟨v,ok⟩:=q
    cases hx
    obtain⟨γ,M,vs,hrel,hfree⟩:=hsem.rel (All.append hp).1
    have hrel':zB γ M (zP none x.op (x.op.operands.toList.map (aev s.sl))).1 vs:=hrel
    rw[zGz (hback γ (hfree d hu)) hrel' hev]
  .cases hx
 refine⟨zcM s x.dst rx.v,by rw[yh ex,hx'];rfl,?_⟩
 rw[yc (zbJ hy)]
 have:=e2 (yo s.sl x.dst rx.v) (zar a3 s.sl rx.v) (yQ a3 s.sl rx.v)
 refine this.trans ?_
 simp only[zcM]
 rw[e1,zbw rx.v hv (fun d hd e=>a2 d e hd)]
end Go.Am
/-! Births among births and appends. -/
namespace Go.Am
open Go Go.RowKit
variable {P:Program}{γ γ':Nat->Option G}{M M':Mem}{C:Ctx}{s s':S}{a a':Act}{w w':World}
theorem zdg{op:Op}(h:yk op=true):zdw op=true:=by unfold zdw;rw[h];rfl
theorem zxT{ob:Nat->Option AObj}{old:Option Nat}{d:Nat}{o:Option AObj}(h:old≠some d):zbh (upd ob d o) old=upd (zbh ob old) d o:=by
 cases old with
 | none=>rfl
 | some i=>
  have:i≠d:=fun e=>h (by rw[e])
  unfold zbh
  dsimp only
  exact zaT ob _ _ (fun e=>this e.symm)
theorem zPE{ob:Nat->Option AObj}{old:Option Nat}{i:Nat}(h:old≠some i):zbh ob old i=ob i:=by
 cases old with
 | none=>rfl
 | some j=>exact zC _ _ (fun e=>h (by rw[e]))
theorem zGX{ob:Nat->Option AObj}{e:TypeId}{x:AV}{i:Nat}{bo:Option AObj}(h:zjX ob e x=some (some i,bo)):x=.arr i/\ob i≠none:=by
 unfold zjX at h
 split at h
 .cases h
 .rename_i id
  cases ho:ob id with
  | none=>rw[ho]at h;cases h
  | some o=>
   rw[ho]at h
   dsimp only at h
   unfold yV at h
   split at h
   .cases h;exact⟨rfl,by rw[ho];simp⟩
   .cases h
 .cases h
theorem zfq{ob:Nat->Option AObj}{t tx:TypeId}{x y:AV}{r:AObj×Option Nat×Option Prop}(h:zaL P ob t tx [x,y]=some r){i:Nat}(hi:r.2.1=some i):x=.arr i/\ob i≠none:=by
 unfold zaL at h
 dsimp only at h
 split at h
 .rename_i e hS
  split at h
  .rename_i k' b' z old bo h1 h2 h3 h4
   have:r.2.1=old:=by
    split at h
    .split at h
     .split at h
      .cases h;rfl
      .cases h;rfl
      .cases h
     .split at h
      .cases h;rfl
      .split at h
       .cases h;rfl
       .cases h
      .cases h
    .cases h
   rw[this]at hi
   rw[hi]at h4
   exact zGX h4
  .cases h
 .cases h
theorem zjU{op:Op}{as:Array Operand}{ts:Array TypeId}(h:yk op=true)(e:op=.call ⟨.builtin .append,as,ts⟩):False:=by rw[e]at h;cases h
theorem zNx{env:Env}{nt:Nat}{ops:Array Oper}{x y:Oper}{s s1 s2:S}{p1 p2:List Prop}(hap:Oper.apart ops y x=true)(hy:zdw y.op=true)(hx:yk x.op=true)(hsem:zbE s x)
 (h1:yx P env nt ops y s=some (s1,p1)) (h2:yx P env nt ops x s1=some (s2,p2)):
 ∃ s1',yx P env nt ops x s=some (s1',p2)/\yx P env nt ops y s1'=some (s2,p1):=by
 obtain⟨a1,a2,a3⟩:=zaz hap
 rw[yc (zbJ hy)]at h1
 rw[yc (zbJ (zdg hx))]at h2
 obtain⟨hv,e1,_,_⟩:=za9 h1
 obtain⟨hg,d,hdst,hdk,hu,hform⟩:=zb8 hy h1
 obtain⟨hgx,dx,hdstx,hdkx,hux,hformx⟩:=zb8 (zdg hx) h2
 have hne:dx≠d:=fun e=>a2 d hdst (by rw[hdstx,e])
 have hargs:zQ s1 x=zQ s x:=by unfold zQ;rw[e1];exact yQ a1 s.sl hv
 have hgx':zV ops s.sl x=some none:=by rw[<-hgx,e1];exact(zar a1 s.sl hv).symm
 rcases hformx with⟨_,ox,okx,hB,hox,hs2,hp2⟩|⟨_,_,_,_,_,_,_,hop,_⟩
 .rw [hargs]at hB hp2
  have hus:s.us dx=false:=by
   rcases hform with⟨_,o,ok,_,ho,hs1,_⟩|⟨_,_,_,_,_,_,r,_,_,_,_,_,_,hs1,_⟩ <;>
    (rw[hs1]at hux;exact(zC s.us true hne).symm.trans hux)
  have hob:s.ob dx=none:=hsem.free dx hus
  refine⟨yI s dx ox,?_,?_⟩
  .rw [yc (zbJ (zdg hx)),zgr hgx' hdstx hdkx hus hx hB hob,hp2]
  .rw [yc (zbJ hy)]
   have a3':∀ d,some dx=some d->d ∉ Oper.looksAt ops y:=fun d hd=>a3 d (by rw[hdstx];exact hd)
   have hgy:zV ops (yI s dx ox).sl y=some none:=(zar (dst:=some dx) a3' s.sl _).trans hg
   have hargy:zQ (yI s dx ox) y=zQ s y:=yQ (dst:=some dx) a3' s.sl _
   have huy:(yI s dx ox).us d=false:=(zC s.us true (fun e=>hne e.symm)).trans hu
   rcases hform with⟨hb,o,ok,hBy,ho,hs1,hp1⟩|⟨as,ts,t,tx,x',y',r,hop,ht,htx,hsz,hxs,hr,hs1,hp1⟩
   .rw [zgr hgy hdst hdk huy hb (by rw[hargy];exact hBy) ((zC s.ob _ (fun e=>hne e.symm)).trans ho),hargy,hs2,hs1,hp1]
    unfold yI
    dsimp only
    rw[zaT s.sl _ _ hne,zaT s.ob _ _ hne,zaT s.us _ _ hne]
   .have hr':zaL P (yI s dx ox).ob t tx [x',y']=some r:=by
     have k:∀ i o,s.ob i=some o->(yI s dx ox).ob i=some o:=by
      intro i o hi
      have:i≠dx:=by intro e;rw[e,hob]at hi;cases hi
      exact(zC s.ob _ this).trans hi
     exact zgq (fun i _=>k i) (fun i _=>k i) hr
    have hold:r.2.1≠some dx:=fun e=>(zfq hr e).2 hob
    rw[zjG hgy hdst hdk huy hop ht htx hsz (by rw[hargy];exact hxs) hr',hargy,hs2,hs1,hp1]
    unfold yI zae
    dsimp only
    rw[zaT s.sl _ _ hne,zxT hold,zaT (zbh s.ob r.2.1) _ _ hne,zaT s.us _ _ hne]
 .exact (zjU hx hop).elim
end Go.Am
/-! The rule for regions whose order is open. -/
namespace Go.Am
open Go Go.RowKit
variable {P:Program}{C:Ctx}{s s':S}{a a':Act}{w w':World}
def zs5(acc:List Nat):List Edge->Nat
 | []=>0
 | e::r=>(if Region.binds .any e then(1 <<< e.on)||| acc.getD e.on 0 else 0)||| zs5 acc r
def zmz:List Oper->List Nat->List Nat
 | [],acc=>acc
 | o::r,acc=>zmz r (acc++[zs5 acc o.after.toList])
def zQt(ops:Array Oper)(listed:Nat->Bool)(x:Nat):Prop:=∀ o,ops[x]?=some o->∀ e ∈ o.after,Region.binds .any e=true->listed e.on=true
def zdK(ops:Array Oper)(listed:Nat->Bool):Prop:=∀ x,listed x=true->zQt ops listed x
def zBt(ops:Array Oper)(x m:Nat):Prop:=∀ listed,zdK ops listed->zQt ops listed x->∀ y,m.testBit y=true->listed y=true
theorem zxP{ops:Array Oper}{acc:List Nat}(hacc:∀ x m,acc[x]?=some m->zBt ops x m):∀ (l:List Edge) (listed:Nat->Bool),zdK ops listed->
 (∀ e ∈ l,Region.binds .any e=true->listed e.on=true)->∀ y,(zs5 acc l).testBit y=true->listed y=true
 | [],_,_,_,y,h=>by simp[zs5]at h
 | e::r,listed,hc,hd,y,h=>by
  simp only[zs5,Nat.testBit_or,Bool.or_eq_true]at h
  rcases h with h|h
  .split at h
   .rename_i hb
    have he:=hd e (List.mem_cons_self ..) hb
    simp only[Nat.testBit_or,Bool.or_eq_true]at h
    rcases h with h|h
    .rw [Nat.one_shiftLeft,Nat.testBit_two_pow]at h
     rw[<-of_decide_eq_true h];exact he
    .cases hx:acc[e.on]? with
     | none=>rw[List.getD_eq_getElem?_getD,hx]at h;simp at h
     | some m=>
      rw[List.getD_eq_getElem?_getD,hx]at h
      exact hacc _ _ hx listed hc (hc _ he) y h
   .simp at h
  .exact zxP hacc r listed hc (fun e' he'=>hd e' (List.mem_cons_of_mem _ he')) y h
theorem zjr{ops:Array Oper}:∀ (l:List Oper) (acc:List Nat),(∀ i o,l[i]?=some o->ops[acc.length+i]?=some o)->(∀ x m,acc[x]?=some m->zBt ops x m)->
 ∀ x m,(zmz l acc)[x]?=some m->zBt ops x m
 | [],acc,_,h2,x,m,hm=>h2 x m hm
 | o::r,acc,h1,h2,x,m,hm=>by
  refine zjr r (acc++[zs5 acc o.after.toList]) (fun i o' ho=>?_) (fun x' m' hx=>?_) x m hm
  .have:=h1 (i+1) o' (by simpa using ho)
   simp only[List.length_append,List.length_singleton]
   rw[show acc.length+1+i=acc.length+(i+1) by omega];exact this
  .rw [List.getElem?_append]at hx
   split at hx
   .exact h2 x' m' hx
   .rename_i hlt
    have hx0:x'-acc.length=0:=by
     cases hk:x'-acc.length with
     | zero=>rfl
     | succ k=>rw[hk]at hx;simp at hx
    rw[hx0]at hx
    simp only[List.getElem?_cons_zero,Option.some.injEq]at hx
    subst hx
    intro listed hc hd y hy
    have ho:=h1 0 o rfl
    rw[show acc.length+0=x' by omega]at ho
    exact zxP h2 o.after.toList listed hc (fun e he hb=>hd o ho e (by simpa using he) hb) y hy
theorem zhX{l:List Nat}(hs:l.Pairwise (·<·)){x:Nat}(hx:x ∈ l):∃ l1 l2,l=l1++x::l2/\∀ y ∈ l1,y<x:=by
 obtain⟨l1,l2,rfl⟩:=List.append_of_mem hx
 refine⟨l1,l2,rfl,fun y hy=>?_⟩
 exact(List.pairwise_append.1 hs).2.2 y hy x (List.mem_cons_self ..)
def lsF(listed:Array Bool):Nat->Bool:=fun i=>listed.getD i false
end Go.Am
/-! Functions that change memory that is handed to them. -/
namespace Go.Am
open Go Go.RowKit
variable {P:Program}{γ γ':Nat->Option G}{M M':Mem}{C:Ctx}{s s':S}{a a':Act}{w w':World}
structure zhW(γ:Nat->Option G)(M:Mem)(w:World)(obF:Nat->Option AObj)(L:Nat->Prop):Prop where
 ob:∀ id o,obF id=some o->OM γ M w id o
 sep:∀ id id' g g' b,obF id≠none->obF id'≠none->γ id=some g->γ id'=some g'->g.blk=some b->g'.blk=some b->id=id'
 lo:∀ id g b,obF id≠none->γ id=some g->g.blk=some b->L b
theorem zP1{obF:Nat->Option AObj}{L:Nat->Prop}{o:List (Nat×AObj)}(ids:List (Nat×Nat))(ren:Nat->Option Nat)
 (hids:o.map (·.1)=ids.map (·.1))
 (ho:All (o.map fun p=>zsh ids p.2/\match ren p.1 with
  | some old=>∃ ob0,obF old=some ob0/\zmb ren ob0 p.2
  | none=>∀ k,zm p.1 ids=some k->zlY k p.2))
 (hinj:∀ i j old,ren i=some old->ren j=some old->(zm i ids).isSome=true->(zm j ids).isSome=true->i=j)
 (h:zhW γ M w obF L):zhW (zaI γ ids ren) M w (fun i=>zm i o) L:=by
 have hkeys:∀ i,(zm i o).isSome=(zm i ids).isSome:=by
  have:∀ (o:List (Nat×AObj)) (ids:List (Nat×Nat)),o.map (·.1)=ids.map (·.1)->∀ i,(zm i o).isSome=(zm i ids).isSome:=by
   intro o
   induction o with
   | nil=>intro ids he i;cases ids with|nil=>rfl|cons _ _=>cases he
   | cons p o ih=>
    intro ids he i
    cases ids with
    | nil=>cases he
    | cons q ids=>
     simp only[List.map_cons,List.cons.injEq]at he
     unfold zm
     rw[he.1]
     cases Nat.beq i q.1 with
     | true=>rfl
     | false=>exact ih ids he.2 i
  exact this o ids hids
 have hob:∀ i ob,zm i o=some ob->zsh ids ob/\match ren i with
  | some old=>∃ ob0,obF old=some ob0/\zmb ren ob0 ob
  | none=>∀ k,zm i ids=some k->zlY k ob:=fun i ob hi=>zHU ho _ (zaw hi)
 have hγ:∀ i g,zaI γ ids ren i=some g->(∃ old,ren i=some old/\γ old=some g/\(zm i ids).isSome=true)\/∃ k,g=.arr none k 0 0:=by
  intro i g hg
  unfold zaI at hg
  cases hl':zm i ids with
  | none=>rw[hl']at hg;cases hg
  | some k=>
   rw[hl']at hg
   cases hr:ren i with
   | none=>rw[hr]at hg;cases hg;exact .inr ⟨k,rfl⟩
   | some old=>rw[hr]at hg;exact .inl ⟨old,rfl,hg,rfl⟩
 refine⟨?_,?_,?_⟩
 .intro id ob hi
  have hi':zm id o=some ob:=hi
  obtain⟨hu,hc⟩:=hob id ob hi'
  have hsome:(zm id ids).isSome=true:=by rw[<-hkeys,hi'];rfl
  obtain⟨k,hk⟩:=Option.isSome_iff_exists.1 hsome
  cases hr:ren id with
  | none=>
   rw[hr]at hc
   have hem:=hc k hk
   have hg:zaI γ ids ren id=some (.arr none k 0 0):=by unfold zaI;simp only[hk,hr]
   cases ob with
   | cells cs=>exact hem.elim
   | bcv _ _=>exact hem.elim
   | bldr _ _=>exact hem.elim
   | raw _=>exact hem.elim
   | mp _ _=>exact hem.elim
   | barr e mu l'=>
    obtain⟨rfl,rfl⟩:=hem
    exact⟨none,0,hg,zdh M w e mu 1⟩
   | larr e mu k' R=>
    obtain⟨rfl,h0⟩:=hem
    exact⟨none,0,[],by rw[h0];exact hg,(fun i j hi _=>by omega),by rw[h0];exact zdh M w e mu k⟩
  | some old=>
   rw[hr]at hc
   obtain⟨ob0,ho0,hcov⟩:=hc
   have hom:=h.ob old ob0 ho0
   have hg:∀ g,γ old=some g->zaI γ ids ren id=some g:=fun g hg=>by unfold zaI;simp only[hk,hr];exact hg
   cases hcov with
   | refl_b e mu l'=>
    obtain⟨a',cap,h1,h2⟩:=hom
    exact⟨a',cap,hg _ h1,h2⟩
   | larr e mu k' R=>
    obtain⟨a',cap,vs,h1,h2,h3⟩:=hom
    exact⟨a',cap,vs,hg _ h1,h2,h3⟩
   | bcv e l'=>obtain⟨g,cur,h1,h2⟩:=hom;exact⟨g,cur,hg _ h1,h2⟩
   | raw o'=>obtain⟨b,h1,h2⟩:=hom;exact⟨b,hg _ h1,h2⟩
   | mp e l'=>obtain⟨b,es,cl,h1,h2⟩:=hom;exact⟨b,es,cl,hg _ h1,h2⟩
   | bldr T x x' hx=>obtain⟨b,v0,v1,h1,h2,h3,h4,h5,h6⟩:=hom;exact⟨b,v0,v1,hg _ h1,h2,h3,hx.rel hu h4,h5,h6⟩
   | cells cs cs' e1 e2=>
    obtain⟨b,vs,e,h1,h2,h3,h4,h5⟩:=hom
    exact⟨b,vs,e,hg _ h1,h2,by omega,fun j hj=>⟨(e2 j hj).rel (hu j hj) (h4 j (by omega)).1,(h4 j (by omega)).2⟩,h5⟩
 .intro i j g g' b _ _ hg hg' hb hb'
  rcases hγ i g hg with⟨old,hr,hgo,hs1⟩|⟨k,rfl⟩
  .rcases hγ j g' hg' with⟨old',hr',hgo',hs2⟩|⟨k,rfl⟩
   . -- both are old objects that stand
    have h1:obF old≠none:=by
     obtain⟨ob,hob1⟩:=Option.isSome_iff_exists.1 ((hkeys i).trans hs1)
     obtain⟨_,hc⟩:=hob i ob hob1
     rw[hr]at hc
     obtain⟨ob0,ho0,_⟩:=hc
     rw[ho0];simp
    have h2:obF old'≠none:=by
     obtain⟨ob,hob1⟩:=Option.isSome_iff_exists.1 ((hkeys j).trans hs2)
     obtain⟨_,hc⟩:=hob j ob hob1
     rw[hr']at hc
     obtain⟨ob0,ho0,_⟩:=hc
     rw[ho0];simp
    have e:=h.sep old old' g g' b h1 h2 hgo hgo' hb hb'
    subst e
    exact hinj i j old hr hr' hs1 hs2
   .cases hb'
  .cases hb
 .intro i g b hoi hg hb
  rcases hγ i g hg with⟨old,hr,hgo,hs1⟩|⟨k,rfl⟩
  .have h1:obF old≠none:=by
    obtain⟨ob,hob1⟩:=Option.isSome_iff_exists.1 ((hkeys i).trans hs1)
    obtain⟨_,hc⟩:=hob i ob hob1
    rw[hr]at hc
    obtain⟨ob0,ho0,_⟩:=hc
    rw[ho0];simp
   exact h.lo old g b h1 hgo hb
  .cases hb
end Go.Am
/-! The contract of a function that changes memory that is handed to it;its call. -/
namespace Go.Am
open Go Go.RowKit
variable {P:Program}{γ γ':Nat->Option G}{M M':Mem}{C:Ctx}{s s':S}{a a':Act}{w w':World}
def Handed(γ:Nat->Option G)(ib:List (Nat×AObj))(b:Nat):Prop:=∃ id g,zm id ib≠none/\γ id=some g/\g.blk=some b
structure HOk(γ:Nat->Option G)(ib:List (Nat×AObj))(M:Mem)(w:World):Prop extends WOk M w where
 hand:∀ b,Handed γ ib b->¬ ztl b
instance {γ:Nat->Option G}{ib:List (Nat×AObj)}{M:Mem}{w:World}:CoeFun (HOk γ ib M w) (fun _=>∀ b o v,M b o=some v->w.cell? ⟨b,o,none⟩=some v):=⟨fun h=>h.cell⟩
instance {γ:Nat->Option G}{ib:List (Nat×AObj)}{M:Mem}{w:World}:CoeOut (HOk γ ib M w) (WOk M w):=⟨HOk.toWOk⟩
def FnR(P:Program)(f:FuncId)(args:List AV)(ib:List (Nat×AObj))(kept:List Nat)(r:AV)(zZ:List (Nat×AObj)):Prop:=
 ∀ (γ:Nat->Option G) (M:Mem) (w:World) (vs:List Value),zhW γ M w (fun i=>zm i ib) (fun b=>b<w.heap.size)->(∀ i,zm i ib=none->γ i=none)->HOk γ ib M w->zB γ M args vs->
  Calls P f vs.toArray w fun e w'=>∃ v γ' M',e=.returned v/\(∀ i ∈ kept,∀ g,γ i=some g->γ' i=some g)/\MLe M M'/\MOk M' w'/\zp γ' M' r v/\
   zhW γ' M' w' (fun i=>zm i zZ) (fun b=>(w.heap.size<=b\/Handed γ ib b)/\b<w'.heap.size)/\
   (∀ b,b<w.heap.size->¬ Handed γ ib b->w'.heap[b]?=w.heap[b]?/\M' b=M b)/\w.heap.size<=w'.heap.size/\w'.os=w.os/\w'.tape=w.tape/\w'.output=w.output
def zbx(ps:List (Nat×Nat)):Rn:=ps.map fun p=>(p.1,some p.2)
def zbW(ps:List (Nat×Nat)):Rn:=ps.map fun p=>(p.2,some p.1)
def zfR(ps:List (Nat×Nat)):Bool:=zaQ (ps.map (·.1))&&zaQ (ps.map (·.2))
theorem zpd{rn:Rn}{i old:Nat}(h:zY rn i=some old):(i,some old) ∈ rn:=by
 unfold zY at h
 split at h
 .rename_i q hq;cases h;exact zaw hq
 .cases h
theorem zut{ps:List (Nat×Nat)}(h:zfR ps=true){i j:Nat}(hm:(i,j) ∈ ps):zY (zbx ps) i=some j:=by
 unfold zfR at h
 rw[Bool.and_eq_true]at h
 have h1:zaQ ((zbx ps).map (·.1))=true:=by simpa[zbx,List.map_map,Function.comp_def]using h.1
 have:zm i (zbx ps)=some (some j):=zaE h1 (List.mem_map.2 ⟨(i,j),hm,rfl⟩)
 unfold zY;rw[this]
theorem zIE{ps:List (Nat×Nat)}(h:zfR ps=true){i j:Nat}(hm:(i,j) ∈ ps):zY (zbW ps) j=some i:=by
 unfold zfR at h
 rw[Bool.and_eq_true]at h
 have h1:zaQ ((zbW ps).map (·.1))=true:=by simpa[zbW,List.map_map,Function.comp_def]using h.2
 have:zm j (zbW ps)=some (some i):=zaE h1 (List.mem_map.2 ⟨(i,j),hm,rfl⟩)
 unfold zY;rw[this]
theorem zAk{ps:List (Nat×Nat)}{i j:Nat}(h:zY (zbW ps) j=some i):(i,j) ∈ ps:=by
 obtain⟨p,hp,he⟩:=List.mem_map.1 (zpd h)
 cases he;exact hp
theorem zpg{ps:List (Nat×Nat)}{i j:Nat}(h:zY (zbx ps) i=some j):(i,j) ∈ ps:=by
 obtain⟨p,hp,he⟩:=List.mem_map.1 (zpd h)
 cases he;exact hp
def zoo(fw:Rn):AV->Bool
 | .any=>true
 | .p _=>true
 | .ref id _=>(zY fw id).isSome
 | .arr id=>(zY fw id).isSome
 | .mref id=>(zY fw id).isSome
 | _=>false
def zon(fw:Rn):AV->Bool
 | .clo _ fs cs=>fs.all (zoo fw)&&cs.all (zoo fw)
 | .agg cs=>cs.all (zoo fw)
 | .tup cs=>cs.all (zoo fw)
 | x=>zoo fw x
def zom(fw:Rn):AObj->Bool
 | .cells cs=>cs.all (zon fw)
 | .bldr _ a=>zon fw a
 | _=>true
section
variable {rn fw:Rn}{ids:List (Nat×Nat)}(hinv:∀ i j,zY fw j=some i->zY rn i=some j/\(zm i ids).isSome=true)
include hinv
theorem zp1{x:AV}(h:zoo fw x=true):zbF (zY rn) x (zds fw x)/\zcN ids (zds fw x):=by
 cases x with
 | any=>exact⟨.any _,.any⟩
 | p q=>exact⟨.p q,.p q⟩
 | ref id off=>
  obtain⟨n,hn⟩:=Option.isSome_iff_exists.1 h
  obtain⟨h1,h2⟩:=hinv n id hn
  simp only[zds,hn]
  exact⟨.ref _ _ _ h1,.ref _ _ h2⟩
 | arr id=>
  obtain⟨n,hn⟩:=Option.isSome_iff_exists.1 h
  obtain⟨h1,h2⟩:=hinv n id hn
  simp only[zds,hn]
  exact⟨.arr _ _ h1,.arr _ h2⟩
 | mref id=>
  obtain⟨n,hn⟩:=Option.isSome_iff_exists.1 h
  obtain⟨h1,h2⟩:=hinv n id hn
  simp only[zds,hn]
  exact⟨.mref _ _ h1,.mref _ h2⟩
 | _=>cases h
theorem zp0{x:AV}(h:zon fw x=true):zbF (zY rn) x (zhS fw x)/\zcN ids (zhS fw x):=by
 have lists:∀ cs:List AV,cs.all (zoo fw)=true->(∀ i,i<(cs.map (zds fw)).length->zbF (zY rn) (cs.getD i .any) ((cs.map (zds fw)).getD i .any))/\∀ i,i<(cs.map (zds fw)).length->zcN ids ((cs.map (zds fw)).getD i .any):=by
  intro cs hc
  refine⟨fun i hi=>?_,fun i hi=>?_⟩
  .rw [zeH (zds fw) rfl];exact(zp1 hinv (zec hc (by simpa using hi) .any)).1
  .rw [zeH (zds fw) rfl];exact(zp1 hinv (zec hc (by simpa using hi) .any)).2
 cases x with
 | clo fn fs cs=>
  simp only[zon,Bool.and_eq_true]at h
  obtain⟨h1,h2⟩:=lists fs h.1
  obtain⟨h3,h4⟩:=lists cs h.2
  exact⟨.clo _ _ _ _ _ (by simp) (by simp) h1 h3,.clo _ _ _ h2 h4⟩
 | agg cs=>
  obtain⟨h1,h2⟩:=lists cs h
  exact⟨.agg _ _ (by simp) h1,.agg _ h2⟩
 | tup cs=>
  obtain⟨h1,h2⟩:=lists cs h
  exact⟨.tup _ _ (by simp) h1,.tup _ h2⟩
 | any=>exact zp1 hinv (x:=.any) h
 | p q=>exact zp1 hinv (x:=.p q) h
 | ref id off=>exact zp1 hinv (x:=.ref id off) h
 | arr id=>exact zp1 hinv (x:=.arr id) h
 | mref id=>exact zp1 hinv (x:=.mref id) h
 | aptr _ _ _=>cases h
 | gd _ _=>cases h
theorem zTU{o:AObj}(h:zom fw o=true):zmb (zY rn) o (zuo fw o)/\zsh ids (zuo fw o):=by
 cases o with
 | barr e mu l=>exact⟨.refl_b _ _ _,trivial⟩
 | larr e mu k R=>exact⟨.larr _ _ _ _,trivial⟩
 | bcv e l=>exact⟨.bcv _ _,trivial⟩
 | raw o=>exact⟨.raw _,trivial⟩
 | mp e l=>exact⟨.mp _ _,trivial⟩
 | bldr T x=>have hc:zon fw x=true:=h;exact⟨.bldr _ _ _ (zp0 hinv hc).1,(zp0 hinv hc).2⟩
 | cells cs=>
  have hc:cs.all (zon fw)=true:=h
  refine⟨.cells _ _ (by simp) fun i hi=>?_,fun i hi=>?_⟩
  .rw [zeH (zhS fw) rfl];exact(zp0 hinv (zec hc (by simpa using hi) .any)).1
  .rw [zeH (zhS fw) rfl];exact(zp0 hinv (zec hc (by simpa using hi) .any)).2
end
theorem zwI{α:Type}{p:α->Prop}:∀ {l:List α},(∀ x ∈ l,p x)->All (l.map p)
 | [],_=>trivial
 | x::l,h=>⟨h x (List.mem_cons_self ..),zwI fun y hy=>h y (List.mem_cons_of_mem _ hy)⟩
theorem zmN{α β:Type}{f:α->Option β}{l:List α}:∀ {r:List β},zN f l=some r->(∀ y ∈ r,∃ x ∈ l,f x=some y)/\(∀ x ∈ l,∃ y ∈ r,f x=some y):=by
 induction l with
 | nil=>intro r h;cases h;exact⟨fun _ h=>(nomatch h),fun _ h=>(nomatch h)⟩
 | cons x l ih=>
  intro r h
  simp only[zN]at h
  cases hx:f x with
  | none=>rw[hx]at h;cases h
  | some y=>
   cases hl:zN f l with
   | none=>rw[hx,hl]at h;cases h
   | some ys=>
    rw[hx,hl]at h;cases h
    obtain⟨h1,h2⟩:=ih hl
    refine⟨fun z hz=>?_,fun z hz=>?_⟩
    .rcases List.mem_cons.1 hz with e|hz
     .exact ⟨x,List.mem_cons_self ..,by rw[e];exact hx⟩
     .obtain ⟨u,hu,he⟩:=h1 z hz;exact⟨u,List.mem_cons_of_mem _ hu,he⟩
    .rcases List.mem_cons.1 hz with e|hz
     .exact ⟨y,List.mem_cons_self ..,by rw[e];exact hx⟩
     .obtain ⟨u,hu,he⟩:=h2 z hz;exact⟨u,List.mem_cons_of_mem _ hu,he⟩
def zpM(obF:Nat->Option AObj)(ps:List (Nat×Nat)):Option (List (Nat×AObj)):=
 zN (fun p=>match obF p.2 with|some o=>(match zom (zbW ps) o with|true=>some (p.1,zuo (zbW ps) o)|false=>none)|none=>none) ps
theorem zfn{obF:Nat->Option AObj}{ps:List (Nat×Nat)}{ib:List (Nat×AObj)}(h:zpM obF ps=some ib):
 ib.map (·.1)=ps.map (·.1)/\(∀ q ∈ ib,∃ j o,(q.1,j) ∈ ps/\obF j=some o/\zom (zbW ps) o=true/\q.2=zuo (zbW ps) o)/\∀ i j,(i,j) ∈ ps->obF j≠none:=by
 unfold zpM at h
 generalize hfw:zbW ps=fw at h
 have hf:∀ (p:Nat×Nat) (q:Nat×AObj),(match obF p.2 with|some o=>(match zom fw o with|true=>some (p.1,zuo fw o)|false=>none)|none=>none)=some q->q.1=p.1/\∃ o,obF p.2=some o/\zom fw o=true/\q.2=zuo fw o:=by
  intro p q hq
  cases ho:obF p.2 with
  | none=>rw[ho]at hq;cases hq
  | some o=>
   rw[ho]at hq
   dsimp only at hq
   cases hu:zom fw o with
   | false=>rw[hu]at hq;cases hq
   | true=>rw[hu]at hq;cases hq;exact⟨rfl,o,rfl,hu,rfl⟩
 refine⟨?_,?_,?_⟩
 .clear hfw
  have:∀ (l:List (Nat×Nat)) (r:List (Nat×AObj)),zN (fun p=>match obF p.2 with|some o=>(match zom fw o with|true=>some (p.1,zuo fw o)|false=>none)|none=>none) l=some r->r.map (·.1)=l.map (·.1):=by
   intro l
   induction l with
   | nil=>intro r h;cases h;rfl
   | cons x l ih=>
    intro r h
    simp only[zN]at h
    split at h
    .rename_i y ys hx hl
     cases h
     have:=(hf x y hx).1
     simp[this,ih ys hl]
    .cases h
  exact this ps ib h
 .intro q hq
  obtain⟨p,hp,he⟩:=(zmN h).1 q hq
  obtain⟨h1,o,h2,h3,h4⟩:=hf p q he
  exact⟨p.2,o,by rw[h1];exact hp,h2,h3,h4⟩
 .intro i j hm
  obtain⟨y,_,he⟩:=(zmN h).2 _ hm
  obtain⟨_,o,h2,_⟩:=hf (i,j) y he
  show obF j≠none
  rw[show obF j=some o from h2];simp
theorem zcX{α:Type}:∀ {l:List (Nat×α)} {i:Nat},i ∈ l.map (·.1)->(zm i l).isSome=true
 | [],_,h=>by cases h
 | p::l,i,h=>by
  unfold zm
  cases hb:Nat.beq i p.1 with
  | true=>rfl
  | false=>
   rcases List.mem_cons.1 h with e|e
   .subst e;simp at hb
   .exact zcX e
theorem zsQ{α:Type}{l:List (Nat×α)}{i:Nat}(h:(zm i l).isSome=true):i ∈ l.map (·.1):=by
 obtain⟨x,hx⟩:=Option.isSome_iff_exists.1 h
 exact List.mem_map.2 ⟨_,zaw hx,rfl⟩
theorem zpL{ps:List (Nat×Nat)}(hok:zfR ps=true){ib:List (Nat×AObj)}(hk:ib.map (·.1)=ps.map (·.1)):
 ∀ i j,zY (zbW ps) j=some i->zY (zbx ps) i=some j/\(zm i (yr ib)).isSome=true:=by
 intro i j h
 have hm:=zAk h
 refine⟨zut hok hm,zcX ?_⟩
 have:(yr ib).map (·.1)=ps.map (·.1):=by rw[<-hk];simp[yr]
 rw[this]
 exact List.mem_map.2 ⟨_,hm,rfl⟩
theorem ztk{obF:Nat->Option AObj}{L:Nat->Prop}(h:zhW γ M w obF L){ps:List (Nat×Nat)}(hok:zfR ps=true){ib:List (Nat×AObj)}(hib:zpM obF ps=some ib):
 zhW (zaI γ (yr ib) (zY (zbx ps))) M w (fun i=>zm i ib) L:=by
 obtain⟨hk,hq,_⟩:=zfn hib
 have hinv:=zpL hok hk
 refine zP1 (yr ib) (zY (zbx ps)) (by simp[yr]) (zwI fun q hqm=>?_) (fun i j old hi hj _ _=>?_) h
 .obtain ⟨j,o,hm,ho,hu,he⟩:=hq q hqm
  obtain⟨c1,c2⟩:=zTU hinv hu
  rw[zut hok hm,he]
  exact⟨c2,o,ho,c1⟩
 .have h1:=zIE hok (zpg hi)
  have h2:=zIE hok (zpg hj)
  rw[h1]at h2;cases h2;rfl
theorem zlI{ids:List (Nat×Nat)}{ps:List (Nat×Nat)}{i:Nat}{g:G}(hk:ids.map (·.1)=ps.map (·.1))(hok:zfR ps=true)(h:zaI γ ids (zY (zbx ps)) i=some g):
 ∃ j,(i,j) ∈ ps/\γ j=some g:=by
 unfold zaI at h
 cases hl:zm i ids with
 | none=>rw[hl]at h;cases h
 | some k=>
  rw[hl]at h
  have:i ∈ ps.map (·.1):=by rw[<-hk];exact zsQ (by rw[hl];rfl)
  obtain⟨p,hp,he⟩:=List.mem_map.1 this
  have hr:=zut hok (i:=i) (j:=p.2) (by rw[<-he];exact hp)
  rw[hr]at h
  exact⟨p.2,by rw[<-he];exact hp,h⟩
theorem zDg{ids:List (Nat×Nat)}{ps:List (Nat×Nat)}{i j:Nat}(hk:ids.map (·.1)=ps.map (·.1))(hok:zfR ps=true)(hm:(i,j) ∈ ps):zaI γ ids (zY (zbx ps)) i=γ j:=by
 unfold zaI
 have:(zm i ids).isSome=true:=zcX (by rw[hk];exact List.mem_map.2 ⟨_,hm,rfl⟩)
 obtain⟨k,hl⟩:=Option.isSome_iff_exists.1 this
 simp only[hl,zut hok hm]
theorem zB.ren{rn fw:Rn}{ids:List (Nat×Nat)}(hinv:∀ i j,zY fw j=some i->zY rn i=some j/\(zm i ids).isSome=true):
 ∀ {xs:List AV} {vs:List Value},xs.all (zon fw)=true->zB γ M xs vs->zB (zaI γ ids (zY rn)) M (xs.map (zhS fw)) vs
 | _,_,_,.nil=>.nil
 | _,_,hu,.cons h1 h2=>by
  simp only[List.all_cons,Bool.and_eq_true]at hu
  obtain⟨c1,c2⟩:=zp0 hinv hu.1
  exact .cons (c1.rel c2 h1) (zB.ren hinv hu.2 h2)
end Go.Am
