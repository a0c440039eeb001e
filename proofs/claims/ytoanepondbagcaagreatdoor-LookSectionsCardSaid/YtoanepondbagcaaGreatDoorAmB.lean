/-
  The abstract machine of these proofs.
-/
import Derived.Test.YtoanepondbagcaaGreatDoorAmA
set_option linter.unusedVariables false
namespace Go.Am
open Go Go.RowKit
variable {P:Program} {γ γ':Nat->Option G} {M M':Mem} {C:Ctx} {s s':S} {a a':Act} {w w':World}
theorem bytesT_spec {t b:Nat} (h:bytesT P t=some b):∃ i,P.info? t=some i/\i.bytes=b:=by
 unfold bytesT at h
 cases hi:P.info? t with
 | none=>rw [hi] at h; cases h
 | some i=>rw [hi] at h; injection h with h; exact ⟨i,rfl,h⟩
theorem sizeT_spec {t b:Nat} (h:sizeT P t=some b):∃ i,P.info? t=some i/\i.size=b:=by
 unfold sizeT at h
 cases hi:P.info? t with
 | none=>rw [hi] at h; cases h
 | some i=>rw [hi] at h; injection h with h; exact ⟨i,rfl,h⟩
theorem elemFacts {e k b:Nat} {z:List AV} (h1:sizeT P e=some k) (h2:bytesT P e=some b) (h3:zeroC P e=some z) (h4:z.length=k):
 ∃ i zv,P.info? e=some i/\i.size=k/\i.bytes=b/\i.zero=some zv/\zv.cells.size=k:=by
 obtain ⟨i,hi,hs⟩:=sizeT_spec h1
 obtain ⟨i2,hi2,hb⟩:=bytesT_spec h2
 obtain ⟨i3,zv,hi3,hz,_,rfl⟩:=zeroC_spec h3
 rw [hi] at hi2 hi3; cases hi2; cases hi3
 exact ⟨i,zv,hi,hs,hb,hz,by simpa using h4⟩
theorem arrOK_nil (M:Mem) (w:World) (e:TypeId) (mu:Bool) (k:Nat):ArrOK M w e mu k 0 [] none 0:=
 ⟨⟨by simp,.inl ⟨rfl,rfl⟩⟩,(fun v hv=>by cases hv),Nat.zero_le _,(fun g hg=>by cases hg)⟩
theorem le_maxLen {n b:Nat} (h:n * (b+1)<=140737488355328):n<=maxLen:=by
 have:n * 1<=n * (b+1):=Nat.mul_le_mul_left n (by omega)
 unfold maxLen; omega
theorem append_core (hs:StG C γ M s a w) {d:Nat} (hd:dstOk C.nt (some d)=true) (hu:s.us d=false) {t tx ty e k b:Nat} {z:List AV} (ht:sliceE P t=some e)
 (h1:sizeT P e=some (k+1)) (h2:bytesT P e=some (b+1)) (h3:zeroC P e=some z) (h4:z.length=k+1)
 {old:Option Nat} {o:AObj} {n m:Nat} {vs news:List Value} {ad:Option Nat} {cap:Nat} (he:o.elem=e)
 (hold:match old with | some id=>∃ oo,s.ob id=some oo/\γ id=some (.arr ad (k+1) n cap)/\oo.mu=o.mu | none=>ad=none)
 (hA:ArrOK M w e o.mu (k+1) n vs ad cap) {v:Value} (hsrc:Src P (k+1) tx v m news w) (hby:(n+m) * (b+1)<=140737488355328)
 (hr:ObjRow M o (k+1) (n+m) (vs++news)):
 ∃ r w' γ' M',(Builtin.append_ #[t,tx] ty #[arrV ad n cap,v]).run P w=.ok r w'/\StG C γ' M' (sappend s d old o) (a.put (some d) r) w':=by
 obtain ⟨i,zv,hi,hsz,hb,hz,hzs⟩:=elemFacts h1 h2 h3 h4
 subst he
 have hm:=le_maxLen hby
 obtain ⟨a',cap',w',hrun,hown,hg⟩:=run_append_row (P:=P) hA t tx ty i zv (sliceE_spec ht) hi hz hsz hzs (by omega) v m news hsrc hm (by rw [hb]; exact hby)
 obtain ⟨γ',M',hst⟩:=hs.appendRow hd hu hold hA hown hg hsrc.one hm hr
 exact ⟨_,w',γ',M',hrun,hst⟩
theorem aBase_spec {ob:Nat->Option AObj} {e:TypeId} {x:AV} {old:Option Nat} {bo:Option AObj} (h:aBase ob e x=some (old,bo)):
 (x=.p .nil/\old=none/\bo=none)\/∃ id o,x=.arr id/\ob id=some o/\o.elem=e/\old=some id/\bo=some o:=by
 unfold aBase at h
 split at h
 .cases h; exact .inl ⟨rfl,rfl,rfl⟩
 .rename_i id
  split at h
  .rename_i o ho
   obtain ⟨hb,he⟩:=bool?_some h
   cases he
   exact .inr ⟨id,o,rfl,ho,Nat.eq_of_beq_eq_true hb,rfl,rfl⟩
  .cases h
 .cases h
theorem evAppend_sound (hs:StG C γ M s a w) {d:Nat} (hd:dstOk C.nt (some d)=true) (hu:s.us d=false) {t tx ty:TypeId} {x y:AV} {o:AObj} {old:Option Nat} {ok:Option Prop}
 (h:evAppend P s.ob t tx [x,y]=some (o,old,ok)) (hok:okP ok) {u v:Value} (hx:ARel γ M x u) (hy:ARel γ M y v):
 ∃ r w' γ' M',(Builtin.append_ #[t,tx] ty #[u,v]).run P w=.ok r w'/\StG C γ' M' (sappend s d old o) (a.put (some d) r) w':=by
 unfold evAppend at h
 split at h
 .rename_i x' y' heq
  cases heq
  split at h
  .rename_i e he
   split at h
   .rename_i k b z old' bo h1 h2 h3 hbase
    split at h
    .rename_i hzl
     have h4:=Nat.eq_of_beq_eq_true hzl
     have hbs:=aBase_spec hbase
     split at h
     .rename_i hu8
      rw [Bool.and_eq_true] at hu8
      have hk0:k=0:=by have:=Nat.eq_of_beq_eq_true hu8.2; omega
      subst hk0
      split at h
      .rename_i l hsrc
       cases h
       have hsrc':=aSrcB_sound (P:=P) hs hsrc hy
       rcases hbs with ⟨rfl,rfl,_⟩ | ⟨_,_,_,_,_,_,hc⟩
       .cases hx.p_inv
        exact append_core (ty:=ty) hs hd hu he h1 h2 h3 h4 (old:=none) (n:=0) (m:=l.length) (vs:=[]) (ad:=none) (cap:=0) (o:=.barr e false l) rfl rfl (arrOK_nil M w _ _ _) hsrc' (by rw [Nat.zero_add]; exact hok) ⟨rfl,by simp,rfl⟩
       .cases hc
      .rename_i e2 mu l0 l hsrc
       cases h
       have hsrc':=aSrcB_sound (P:=P) hs hsrc hy
       rcases hbs with ⟨_,_,hc⟩ | ⟨id,o',rfl,ho,hel,rfl,hc⟩
       .cases hc
       .cases hc
        obtain ⟨ad,k',n,cap,hg,rfl⟩:=hx.arr_inv
        obtain ⟨a2,cap2,hg',hA⟩:=hs.ob id _ ho
        rw [hg] at hg'; cases hg'
        have hel:e2=e:=hel
        subst hel
        exact append_core (ty:=ty) hs hd hu he h1 h2 h3 h4 (old:=some id) (o:=.barr e2 mu (l0++l)) rfl ⟨_,ho,hg,rfl⟩ hA hsrc' hok ⟨rfl,by simp,by simp⟩
      .cases h
     .split at h
      .rename_i R hsrc
       cases h
       obtain ⟨news,hsrc',hf⟩:=aSrcL_sound (P:=P) hs hsrc hy
       rcases hbs with ⟨rfl,rfl,_⟩ | ⟨_,_,_,_,_,_,hc⟩
       .cases hx.p_inv
        exact append_core (ty:=ty) hs hd hu he h1 h2 h3 h4 (old:=none) (n:=0) (m:=R.n) (vs:=[]) (ad:=none) (cap:=0) (o:=.larr e false (k+1) R) rfl rfl (arrOK_nil M w _ _ _) hsrc' (by rw [Nat.zero_add]; exact hok) ⟨rfl,by simp,by simpa using hf⟩
       .cases hc
      .rename_i e2 mu k0 R0 R hsrc
       split at h
       .rename_i hk0
        have hk0:=Nat.eq_of_beq_eq_true hk0
        subst hk0
        cases h
        obtain ⟨news,hsrc',hf⟩:=aSrcL_sound (P:=P) hs hsrc hy
        rcases hbs with ⟨_,_,hc⟩ | ⟨id,o',rfl,ho,hel,rfl,hc⟩
        .cases hc
        .cases hc
         obtain ⟨ad,k',n',cap,hg,rfl⟩:=hx.arr_inv
         obtain ⟨a2,cap2,vs,hg',hv,hA⟩:=hs.ob id _ ho
         rw [hg] at hg'; cases hg'
         have hel:e2=e:=hel
         subst hel
         have hcat:=catR_spec R0 R
         refine append_core (ty:=ty) hs hd hu he h1 h2 h3 h4 (old:=some id) (o:=.larr e2 mu (k+1) (catR R0 R)) rfl ⟨_,ho,hg,rfl⟩ hA hsrc' hok ⟨rfl,hcat.1.symm,?_⟩
         intro i j hi hj
         have hlv:=hA.len_vs
         rcases Nat.lt_or_ge i R0.n with hlt | hge
         .obtain ⟨q,hq1,hq2⟩:=hv i j hlt hj
          refine ⟨q,?_,by rw [hcat.2.1 i j hlt]; exact hq2⟩
          rw [List.getElem?_append_left]
          .exact hq1
          .rcases Nat.lt_or_ge (i * (k+1)+j) vs.length with h5 | h5
           .exact h5
           .rw [List.getElem?_eq_none h5] at hq1; cases hq1
         .obtain ⟨q,hq1,hq2⟩:=hf (i - R0.n) j (by omega) hj
          refine ⟨q,?_,by rw [hcat.2.2 i j hge hi]; exact hq2⟩
          have e3:i * (k+1)+j=vs.length+((i - R0.n) * (k+1)+j):=by
           rw [hlv,<-Nat.add_assoc,<-Nat.add_mul]
           congr 2
           omega
          rw [e3,List.getElem?_append_right (by omega),Nat.add_sub_cancel_left]
          exact hq1
       .cases h
      .cases h
    .cases h
   .cases h
  .cases h
 .rename_i hne
  exact absurd rfl (hne x y)
def evStore (P:Program) (ob:Nat->Option AObj) (t:TypeId):List AV->Option (Nat×AObj×Option Prop)
 | [.ref id off,x]=>match ob id,x.cells?,sizeT P t with
  | some (.cells cs),some ys,some n=>match Nat.beq ys.length n&&Nat.ble (off+n) cs.length&&ys.all AV.one with
   | true=>some (id,.cells (over cs off ys),none)
   | false=>none
  | some (.bldr T _),some [y],some 1=>match Nat.beq off 1&&y.one with
   | true=>some (id,.bldr T y,none)
   | false=>none
  | _,_,_=>none
 | [.aptr id i j,x]=>match ob id,x,sizeT P t with
  | some (.barr e true l),.p (.int .u8 v),some 1=>match j with
   | 0=>some (id,.barr e true (l.set i (UInt8.ofNat v.toNat)),some (i < l.length))
   | _=>none
  | some (.bcv e l),.p (.int .u8 v),some 1=>match j with
   | 0=>some (id,.bcv e (l.set i (UInt8.ofNat v.toNat)),some (i < l.length))
   | _=>none
  | some (.larr e true k R),x,some m=>match x.cells? with
   | some ys=>match allSome toPV ys with
    | some ps=>match Nat.beq ys.length m&&Nat.ble (j+m) k with
     | true=>some (id,.larr e true k (setR R k i j m ps),some (i < R.n))
     | false=>none
    | none=>none
   | none=>none
  | _,_,_=>none
 | _=>none
theorem over_toList (cur:Array Value) (off:Nat) (vs:List Value) (h:off+vs.length<=cur.size):
 ∀ j,(cur.toList.take off++vs++cur.toList.drop (off+vs.length)).toArray[j]?=if off<=j/\j < off+vs.length then vs[j - off]? else cur[j]?:=by
 intro j
 have hl:(cur.toList.take off).length=off:=by simp; omega
 rw [List.getElem?_toArray]
 by_cases h1:j < off
 .rw [List.append_assoc,List.getElem?_append_left (by omega),if_neg (by omega),List.getElem?_take,if_pos h1,Array.getElem?_toList]
 .rw [List.append_assoc,List.getElem?_append_right (by omega),hl]
  by_cases h2:j < off+vs.length
  .rw [List.getElem?_append_left (by omega),if_pos (by omega)]
  .rw [List.getElem?_append_right (by omega),if_neg (by omega),List.getElem?_drop,Array.getElem?_toList]
   congr 1
   omega
theorem StG.write (h:StG C γ M s a w) {id:Nat} {o o':AObj} (ho:s.ob id=some o) {g:G} (hg:γ id=some g) {b:Nat} (hb:g.blk=some b)
 {w':World} (hos:w'.os=w.os) (htape:w'.tape=w.tape) (hout:w'.output=w.output) (hsz:w'.heap.size=w.heap.size)
 (hother:∀ c,c≠b->w'.heap[c]?=w.heap[c]?) (hM:∀ q,M b q=none) (hn:OM γ M w' id o'):
 StG C γ M { s with ob:=upd s.ob id (some o') } a w':=by
 have hne:s.ob id≠none:=by rw [ho]; simp
 have hblk:∀ i g' c,i≠id->s.ob i≠none->γ i=some g'->g'.blk=some c->c≠b:=by
  intro i g' c hi hob hgi hc e
  subst e
  exact hi (h.sep i id g' g c hob hne hgi hg hc hb)
 have hl:=h.lo id g b hne hg hb
 refine h.master (s':={ s with ob:=upd s.ob id (some o') }) (GLe.refl γ) (MLe.refl M) h.sl h.nt h.df id
  (fun i hi=>.inr (upd_ne _ _ hi)) (fun _ _=>rfl) ?_ ?_ ?_ ?_ ?_ (by omega) ?_ (fun _ _ _=>rfl) ?_
 .intro i hi
  refine ⟨hi,fun e=>?_⟩
  subst e
  rw [h.us i hi] at hg; cases hg
 .intro o2 ho2
  dsimp only at ho2
  rw [upd_same] at ho2; cases ho2; exact hn
 .intro i g' c hi hob hgi hc
  dsimp only at hob
  rw [upd_ne _ _ hi] at hob
  exact ⟨hother c (hblk i g' c hi hob hgi hc),rfl⟩
 .intro i g1 g2 c hi hob _ hg1 hg2 hb1 hb2
  dsimp only at hob
  rw [upd_ne _ _ hi] at hob
  rw [hg] at hg2; cases hg2
  rw [hb] at hb2; cases hb2
  exact hblk i g1 b hi hob hg1 hb1 rfl
 .intro g' c _ hg' hc
  rw [hg] at hg'; cases hg'
  rw [hb] at hc; cases hc
  exact ⟨hl.1,by omega⟩
 .intro c q v hv
  by_cases e:c=b
  .subst e; rw [hM q] at hv; cases hv
  .rw [World.cell?_of_block (w:=w) (hother c e)]; exact h.mem c q v hv
 .have hf:=h.fr
  refine ⟨hos.trans hf.os,htape.trans hf.tape,hout.trans hf.output,by have:=hf.size; omega,fun c hc hno=>?_⟩
  rw [hother c ?_]
  .exact hf.block c hc hno
  .intro e
   subst e
   rcases hl.1 with h2 | h2
   .omega
   .exact hno h2
theorem over_list_get (vs xs:List Value) (off:Nat) (h:off+xs.length<=vs.length) (j:Nat):
 (vs.take off++xs++vs.drop (off+xs.length))[j]?=if off<=j/\j < off+xs.length then xs[j - off]? else vs[j]?:=by
 have hl:(vs.take off).length=off:=by simp; omega
 by_cases h1:j < off
 .rw [List.append_assoc,List.getElem?_append_left (by omega),if_neg (by omega),List.getElem?_take,if_pos h1]
 .rw [List.append_assoc,List.getElem?_append_right (by omega),hl]
  by_cases h2:j < off+xs.length
  .rw [List.getElem?_append_left (by omega),if_pos (by omega)]
  .rw [List.getElem?_append_right (by omega),if_neg (by omega),List.getElem?_drop]
   congr 1
   omega
theorem row_store (hs:StG C γ M s a w) {id:Nat} {o o':AObj} (ho:s.ob id=some o) {g k n cap:Nat} (hg:γ id=some (.arr (some g) k n cap)) {vs:List Value}
 (hA:ArrOK M w o.elem o.mu k n vs (some g) cap) (hmu:o.mu=true) {t m:Nat} (hn:sizeT P t=some m) {v:Value} (hsz:v.cells.size=m)
 (hone:∀ u ∈ v.cells.toList,u.oneCell'=true) {base:Nat} (hb:base+m<=n * k) (he:o'.elem=o.elem) (hmu':o'.mu=true)
 (hr:ObjRow M o' k n (vs.take base++v.cells.toList++vs.drop (base+m))):
 ∃ w',(Instr.storeAt t (.pointer (some ⟨g,base,none⟩)) v).run P w=.ok () w'/\StG C γ M { s with ob:=upd s.ob id (some o') } a w':=by
 have hM:∀ q,M g q=none:=by have:=hA.mem g rfl; rw [hmu] at this; simpa using this
 have hl:v.cells.toList.length=m:=by simpa using hsz
 rcases hA.own.2 with ⟨hv,_⟩ | ⟨g',cap',cur,hv,_,hh,hnc,hcm,hcs,htake⟩
 .simp [arrV] at hv
 .simp only [arrV,Option.map_some,Value.slice.injEq,Option.some.injEq,Addr.mk.injEq,and_true,true_and] at hv
  obtain ⟨rfl,rfl⟩:=hv
  have hnk:n * k<=cur.size:=by rw [hcs]; exact Nat.mul_le_mul_right k hnc
  have hvl:=hA.len_vs
  have hrun:=run_storeCells_at P g base o.elem v.cells.toList 0 cur w hh (by rw [hl]; omega) hone
  simp only [Nat.add_zero] at hrun
  have hov:=over_toList cur base v.cells.toList (by rw [hl]; omega)
  have hov2:=over_list_get vs v.cells.toList base (by rw [hl,hvl]; exact hb)
  rw [hl] at hov hov2 hrun
  refine ⟨w.setRow g (cur.toList.take base++v.cells.toList++cur.toList.drop (base+m)).toArray,?_,
   hs.write (w':=w.setRow g (cur.toList.take base++v.cells.toList++cur.toList.drop (base+m)).toArray) ho hg rfl rfl rfl rfl (by simp) (fun c hc=>setRow_other w g c _ hc) hM
    (OM.row hg hr ⟨⟨?_,.inr ⟨g,cap,_,rfl,Nat.zero_le _,by rw [he]; exact setRow_heap w g cur _ _ _ hh,hnc,hcm,?_,?_⟩⟩,?_,hA.len,?_⟩)⟩
  .simp only [Instr.storeAt,Instr.sureAddr,Sem.run_bind,Sem.run_pure,Result.andThen_ok,storeVar,run_sizeOf hn]
   rw [if_neg (by simp [hsz])]
   exact hrun
  .simp only [List.length_append,List.length_take,List.length_drop,hl]; omega
  .simp only [List.size_toArray,List.length_append,List.length_take,List.length_drop,Array.length_toList,hl]; omega
  .apply List.ext_getElem?
   intro q
   rw [hov2 q,List.getElem?_take]
   by_cases hq:q < n * k
   .rw [if_pos hq,Array.getElem?_toList,hov q]
    by_cases hc:base<=q/\q < base+m
    .rw [if_pos hc,if_pos hc]
    .rw [if_neg hc,if_neg hc,<-htake,List.getElem?_take,if_pos hq,Array.getElem?_toList]
   .rw [if_neg hq,if_neg (by omega),List.getElem?_eq_none (by omega)]
  .intro u hu
   rw [List.mem_append,List.mem_append] at hu
   rcases hu with (hu | hu) | hu
   .exact hA.one u (List.mem_of_mem_take hu)
   .exact hone u hu
   .exact hA.one u (List.mem_of_mem_drop hu)
  .intro g' hg'
   cases hg'
   rw [hmu']
   simpa using hM
theorem run_store_one (g i:Nat) (t:TypeId) (fz:Nat×Nat) (cur:Array Value) (w:World) (v:Value) (hg:w.heap[g]?=some (.cells cur t fz)) (hi:i < cur.size) (hf:fz.2<=i\/i < fz.1) (h1:v.oneCell'=true):
 (storeCells ⟨g,i,none⟩ [v] 0).run P w=.ok () (w.setRow g (cur.setIfInBounds i v)):=by
 have hadd:(⟨g,i,none⟩:Addr).add 0=⟨g,i,none⟩:=by unfold Addr.add; split <;> simp_all
 have hcell:w.cell? ⟨g,i,none⟩=some cur[i]:=by simp [World.cell?,hg,hi]
 have hfro:w.frozen? ⟨g,i,none⟩=false:=by
  obtain ⟨lo,hi'⟩:=fz
  simp only [World.frozen?,hg,Bool.and_eq_false_iff,decide_eq_false_iff_not]
  rcases hf with h | h
  .exact .inr (by simpa using h)
  .exact .inl (by simpa using h)
 have hst:(store ((⟨g,i,none⟩:Addr).add 0) v).run P w=.ok () (w.setRow g (cur.setIfInBounds i v)):=by
  rw [hadd,run_store P w _ v _ h1,hcell]
  simp [hfro,setCell_eq_setRow w g i cur t fz v hg]
 simp only [storeCells,Sem.run_bind,hst,Result.andThen_ok]
 rfl
theorem evStore_sound (hs:StG C γ M s a w) {t id:Nat} {x y:AV} {o:AObj} {ok:Option Prop} (h:evStore P s.ob t [x,y]=some (id,o,ok)) (hok:okP ok) {u v:Value}
 (hx:ARel γ M x u) (hy:ARel γ M y v):
 ∃ w',(Instr.storeAt t u v).run P w=.ok () w'/\StG C γ M { s with ob:=upd s.ob id (some o) } a w':=by
 cases x with
 | ref id' off=>
  dsimp only [evStore] at h
  split at h
  .rename_i cs ys n ho hc hn
   split at h
   .rename_i hb
    cases h
    rw [Bool.and_eq_true,Bool.and_eq_true] at hb
    have h1:=Nat.eq_of_beq_eq_true hb.1.1
    have h2:=Nat.le_of_ble_eq_true hb.1.2
    have h3:=hb.2
    obtain ⟨b,hg,rfl⟩:=hx.ref_inv
    obtain ⟨b',vs,e,hg',hh,hsz,hcc,hm⟩:=hs.ob id _ ho
    rw [hg] at hg'; cases hg'
    have hr:=cells?_rel hc hy
    have hone:=over_full hr h3
    have hl:v.cells.toList.length=ys.length:=by simpa using hr.1
    have hrun:=run_storeCells_at P b off e v.cells.toList 0 vs w hh (by rw [hl]; omega) (by
     intro q hq
     obtain ⟨j,hj,rfl⟩:=List.getElem_of_mem hq
     have hj':j < v.cells.size:=by simpa using hj
     have:=hone j (by rw [<-hr.1]; exact hj')
     rw [Array.getD_eq_getD_getElem?,Array.getElem?_eq_getElem hj'] at this
     simpa using this)
    simp only [Nat.add_zero] at hrun
    have hov:=over_toList vs off v.cells.toList (by rw [hl]; omega)
    have hle:off+ys.length<=cs.length:=by omega
    refine ⟨w.setRow b (vs.toList.take off++v.cells.toList++vs.toList.drop (off+v.cells.toList.length)).toArray,?_,
     hs.write (w':=w.setRow b (vs.toList.take off++v.cells.toList++vs.toList.drop (off+v.cells.toList.length)).toArray) ho hg rfl rfl rfl rfl (by simp) (fun c hc=>setRow_other w b c _ hc) hm ⟨b,_,e,hg,setRow_heap w b vs _ e _ hh,?_,fun j hj=>?_,hm⟩⟩
    .have hsz2:v.cells.size=n:=by rw [hr.1]; exact h1
     simp only [Instr.storeAt,Instr.sureAddr,Sem.run_bind,Sem.run_pure,Result.andThen_ok,storeVar,run_sizeOf hn]
     rw [if_neg (by simp [hsz2])]
     exact hrun
    .rw [over_length hle]
     simp only [List.size_toArray,List.length_append,List.length_take,List.length_drop,Array.length_toList] at hl ⊢
     omega
    .rw [over_length hle] at hj
     rw [over_get hle,Array.getD_eq_getD_getElem?,hov j,hl]
     by_cases hcnd:off<=j/\j < off+ys.length
     .rw [if_pos hcnd,if_pos hcnd]
      have q1:=hr.2 (j - off) (by omega)
      have q2:=hone (j - off) (by omega)
      rw [Array.getD_eq_getD_getElem?] at q1 q2
      rw [Array.getElem?_toList]
      exact ⟨q1,q2⟩
     .rw [if_neg hcnd,if_neg hcnd]
      have:=hcc j hj
      rw [Array.getD_eq_getD_getElem?] at this
      exact this
   .cases h
  .rename_i T a0 y' ho hc hn
   split at h
   .rename_i hb
    cases h
    rw [Bool.and_eq_true] at hb
    have h1:=Nat.eq_of_beq_eq_true hb.1
    subst h1
    obtain ⟨b,hg,rfl⟩:=hx.ref_inv
    obtain ⟨b',v0,v1,hg',hh,h0,_,_,hm⟩:=hs.ob id _ ho
    rw [hg] at hg'; cases hg'
    have hr:=cells?_rel hc hy
    have hsz:v.cells.size=1:=hr.1
    obtain ⟨u,hu⟩:∃ u,v.cells=#[u]:=by
     match hq:v.cells,hsz with
     | ⟨[u]⟩,_=>exact ⟨u,rfl⟩
    have hyu:ARel γ M y' u:=by
     have:=hr.2 0 (by simp)
     simpa [hu] using this
    have hone:u.oneCell'=true:=hyu.oneCell hb.2
    have hrun:=run_store_one (P:=P) b 1 T (0,0) #[v0,v1] w u hh (by simp) (.inl (by simp)) hone
    refine ⟨w.setRow b (#[v0,v1].setIfInBounds 1 u),?_,hs.write (w':=w.setRow b (#[v0,v1].setIfInBounds 1 u)) ho hg rfl rfl rfl rfl (by simp) (fun c hc=>setRow_other w b c _ hc) hm ⟨b,v0,u,hg,setRow_heap w b #[v0,v1] _ T _ hh,h0,hyu,hone,hm⟩⟩
    simp only [Instr.storeAt,Instr.sureAddr,Sem.run_bind,Sem.run_pure,Result.andThen_ok,storeVar,run_sizeOf hn]
    rw [if_neg (by simp [hsz]),hu]
    exact hrun
   .cases h
  .cases h
 | aptr id' i j=>
  dsimp only [evStore] at h
  obtain ⟨g,k,n,cap,hg,rfl⟩:=hx.aptr_inv
  split at h
  .rename_i e l v' ho hn
   split at h
   .cases h
    have hlt:i < l.length:=hok
    obtain ⟨a2,cap2,hg',hA⟩:=hs.ob id _ ho
    rw [hg] at hg'; cases hg'
    obtain ⟨rfl,hv⟩:=hy.int_inv
    refine row_store (P:=P) (v:=.int .u8 v') hs ho hg hA rfl hn rfl (by simp [Value.cells,Value.oneCell']) (base:=i * 1+0) (by omega) rfl rfl ⟨rfl,by simp,?_⟩
    rw [u8_byteV hv]
    have hov2:=over_list_get (l.map byteV) [byteV (UInt8.ofNat v'.toNat)] (i * 1+0) (by simp; omega)
    apply List.ext_getElem?
    intro q
    refine (hov2 q).trans ?_
    rw [List.map_set,List.getElem?_set]
    simp only [Nat.mul_one,Nat.add_zero,List.length_singleton,List.length_map]
    by_cases hq:i=q
    .subst hq
     rw [if_pos (by omega),if_pos rfl,if_pos hlt]
     simp
    .rw [if_neg (by omega),if_neg hq]
   .cases h
  .rename_i e l v' ho hn
   split at h
   .cases h
    have hlt:i < l.length:=hok
    obtain ⟨g',cur,hg',hh,ht,hc,hl,hm⟩:=hs.ob id _ ho
    rw [hg] at hg'; cases hg'
    obtain ⟨rfl,hv⟩:=hy.int_inv
    have hrun:=run_store_one (P:=P) g i e _ cur w (.int .u8 v') hh (by omega) (.inr (by show i < cur.size; omega)) rfl
    have hsz:(cur.setIfInBounds i (.int .u8 v')).size=cur.size:=by simp
    refine ⟨w.setRow g (cur.setIfInBounds i (.int .u8 v')),?_,hs.write (w':=w.setRow g (cur.setIfInBounds i (.int .u8 v'))) ho hg rfl rfl rfl rfl (by simp) (fun c hc=>setRow_other w g c _ hc) hm
     ⟨g,cur.setIfInBounds i (.int .u8 v'),by rw [hsz,List.length_set]; exact hg,by rw [hsz]; exact setRow_heap w g cur _ e _ hh,?_,by rw [hsz,List.length_set]; exact hc,by rw [List.length_set]; exact hl,hm⟩⟩
    .simp only [Instr.storeAt,Instr.sureAddr,Sem.run_bind,Sem.run_pure,Result.andThen_ok,storeVar,run_sizeOf hn]
     rw [if_neg (by simp [Value.cells])]
     simpa [Value.cells] using hrun
    .rw [u8_byteV hv,List.length_set,Array.toList_setIfInBounds,List.take_set,ht,List.map_set]
   .cases h
  .rename_i e k2 R m ho hn
   split at h
   .rename_i ys hc
    split at h
    .rename_i ps hps
     split at h
     .rename_i hb
      cases h
      rw [Bool.and_eq_true] at hb
      have h1:=Nat.eq_of_beq_eq_true hb.1
      have h2:=Nat.le_of_ble_eq_true hb.2
      obtain ⟨a2,cap2,vs,hg',hv,hA⟩:=hs.ob id _ ho
      rw [hg] at hg'; cases hg'
      have hr:=cells?_rel hc hy
      have hlt:i < R.n:=hok
      have hset:=setR_spec (M:=M) R k i j m ps
      obtain ⟨q1,q2⟩:=allSome_get hps
      have hpv:∀ q,q < ys.length->∃ p,ps[q]?=some p/\PRel M p (v.cells.getD q undef):=by
       intro q hq
       obtain ⟨p,hp,hf⟩:=q2 q _ (List.getElem?_eq_getElem hq)
       refine ⟨p,hp,?_⟩
       have:=hr.2 q hq
       rw [List.getD_eq_getElem?_getD,List.getElem?_eq_getElem hq] at this
       unfold toPV at hf
       split at hf
       .rename_i hx2
        cases hf
        simp only [Option.getD_some] at this
        rw [hx2] at this
        exact this.p_inv
       .cases hf
      have hik:(i+1) * k<=R.n * k:=Nat.mul_le_mul_right k hlt
      rw [Nat.add_mul,Nat.one_mul] at hik
      have hvl:=hA.len_vs
      have hsz:v.cells.size=m:=by rw [hr.1]; exact h1
      refine row_store (P:=P) (v:=v) hs ho hg hA rfl hn hsz ?_ (base:=i * k+j) (by omega) rfl rfl ⟨rfl,hset.1.symm,?_⟩
      .intro u hu
       obtain ⟨q,hq,rfl⟩:=List.getElem_of_mem hu
       have hq':q < v.cells.size:=by simpa using hq
       obtain ⟨p,_,hp⟩:=hpv q (by rw [<-hr.1]; exact hq')
       rw [Array.getD_eq_getD_getElem?,Array.getElem?_eq_getElem hq'] at hp
       exact hp.oneCell
      .intro i' j' hi' hj'
       suffices hraw:∃ u,(vs.take (i * k+j)++v.cells.toList++vs.drop (i * k+j+m))[i' * k+j']?=some u/\PRel M (setL R.f i j m ps i' j') u by
        obtain ⟨u,hu1,hu2⟩:=hraw
        exact ⟨u,hu1,hset.2 i' j' hi' hj' u hu2⟩
       unfold setL
       have hl:v.cells.toList.length=m:=by simpa using hsz
       have hov2:=over_list_get vs v.cells.toList (i * k+j) (by rw [hl]; omega) (i' * k+j')
       rw [hl] at hov2
       rw [hov2]
       by_cases hi:i'=i
       .subst hi
        have e1:Nat.beq i' i'=true:=by simp
        by_cases hj:j<=j'/\j' < j+m
        .have e2:Nat.ble j j'=true:=Nat.ble_eq_true_of_le hj.1
         have e3:Nat.blt j' (j+m)=true:=Nat.ble_eq_true_of_le hj.2
         rw [if_pos (by omega)]
         simp only [e1,e2,e3,Bool.and_self]
         obtain ⟨p,hp1,hp2⟩:=hpv (j' - j) (by omega)
         have e4:i' * k+j' - (i' * k+j)=j' - j:=by omega
         rw [e4,Array.getElem?_toList,Array.getElem?_eq_getElem (by omega)]
         refine ⟨_,rfl,?_⟩
         rw [List.getD_eq_getElem?_getD,hp1]
         rw [Array.getD_eq_getD_getElem?,Array.getElem?_eq_getElem (by omega)] at hp2
         exact hp2
        .have e2:(Nat.beq i' i'&&Nat.ble j j'&&Nat.blt j' (j+m))=false:=by
          rw [Bool.and_eq_false_iff]
          by_cases h5:j<=j'
          .right
           cases hb2:Nat.blt j' (j+m) with
           | false=>rfl
           | true=>exact absurd ⟨h5,Nat.le_of_ble_eq_true hb2⟩ hj
          .left
           rw [Bool.and_eq_false_iff]; right
           cases hb2:Nat.ble j j' with
           | false=>rfl
           | true=>exact absurd (Nat.le_of_ble_eq_true hb2) h5
         rw [if_neg (by omega)]
         simp only [e2]
         exact hv i' j' hi' hj'
       .have e1:Nat.beq i' i=false:=by
         cases hb2:Nat.beq i' i with
         | false=>rfl
         | true=>exact absurd (Nat.eq_of_beq_eq_true hb2) hi
        have hne:¬ (i * k+j<=i' * k+j'/\i' * k+j' < i * k+j+m):=by
         rcases Nat.lt_or_gt_of_ne hi with h5 | h5
         .have:(i'+1) * k<=i * k:=Nat.mul_le_mul_right k h5
          rw [Nat.add_mul,Nat.one_mul] at this
          omega
         .have:(i+1) * k<=i' * k:=Nat.mul_le_mul_right k h5
          rw [Nat.add_mul,Nat.one_mul] at this
          omega
        rw [if_neg hne]
        simp only [e1,Bool.false_and]
        exact hv i' j' hi' hj'
     .cases h
    .cases h
   .cases h
  .cases h
 | _=>cases h
end Go.Am
namespace Go.Am
open Go Go.RowKit
variable {P:Program} {γ γ':Nat->Option G} {M M':Mem} {C:Ctx} {s s':S} {a a':Act} {w w':World}
abbrev γ0:Nat->Option G:=fun _=>none
def FnP (P:Program) (f:FuncId) (args:List AV) (r:AV):Prop:=
 ∀ (M:Mem) (w:World) (vs:List Value),MOk M w->ARels γ0 M args vs->
  Calls P f vs.toArray w fun e w'=>∃ v M',e=.returned v/\MLe M M'/\(∀ b,b < w.heap.size->M' b=M b)/\MOk M' w'/\ARel γ0 M' r v/\Below w.heap.size w w'
def callable (P:Program) (f:FuncId):Bool:=
 match P.funcs[f]? with
 | some fn=>fn.body.isSome&&!(fn.name== "runtime.NumGoroutine")
 | none=>false
theorem run_callFunc {f:FuncId} (h:callable P f=true) (vs:Array Value) (w:World):(callFunc f vs).run P w=.ok (.enter f vs) w:=by
 unfold callable at h
 cases hf:P.funcs[f]? with
 | none=>rw [hf] at h; cases h
 | some fn=>
  rw [hf] at h
  dsimp only at h
  rw [Bool.and_eq_true,Bool.not_eq_true'] at h
  have h2:fn.body.isNone=false:=by cases hb:fn.body with | none=>rw [hb] at h; cases h.1 | some _=>rfl
  have h3:¬ (fn.name= "runtime.NumGoroutine"):=by have:=h.2; simpa using this
  have h4:¬ (fn.body=none):=by intro e; rw [e] at h2; cases h2
  simp [callFunc,hf,h3,h4]
abbrev Env:=FuncId->List AV->Option (AV×Option Prop)
def ExtP (P:Program) (f:FuncId) (args:List AV) (r:AV):Prop:=
 ∀ (M:Mem) (w:World) (vs:List Value),MOk M w->ARels γ0 M args vs->∃ v,(callFunc f vs.toArray).run P w=.ok (.value v) w/\ARel γ0 M r v
def CallP (P:Program) (f:FuncId) (args:List AV) (r:AV):Prop:=(callable P f=true/\FnP P f args r)\/ExtP P f args r
def EnvOk (P:Program) (env:Env):Prop:=∀ f zs r ok,env f zs=some (r,ok)->okP ok->CallP P f zs r
def snap1 (ob:Nat->Option AObj):AV->Option AV
 | .p x=>some (.p x)
 | .arr id=>match ob id with
  | some (.barr _ false l)=>some (.p (.bytes l))
  | some (.larr _ false k R)=>some (.p (.list k R))
  | _=>none
 | _=>none
def snap (ob:Nat->Option AObj):AV->Option AV
 | .agg cs=>(allSome (snap1 ob) cs).map .agg
 | .clo fn [] []=>some (.clo fn [] [])
 | x=>snap1 ob x
theorem snap1_rel (hs:StG C γ M s a w) {x z:AV} (h:snap1 s.ob x=some z) {v:Value} (hx:ARel γ M x v):ARel γ0 M z v:=by
 cases x with
 | p q=>cases h; exact .p _ _ hx.p_inv
 | arr id=>
  obtain ⟨ad,k,n,cap,hg,rfl⟩:=hx.arr_inv
  dsimp only [snap1] at h
  cases ho:s.ob id with
  | none=>rw [ho] at h; cases h
  | some o=>
   rw [ho] at h
   have cap_ge:∀ {e mu k n vs g cap},ArrOK M w e mu k n vs (some g) cap->n<=cap:=by
    intro e mu k n vs g cap hA
    rcases hA.own.2 with ⟨hv,_⟩ | ⟨g',cap',cur,hv,_,_,hc,_⟩
    .simp [arrV] at hv
    .simp [arrV] at hv; omega
   cases o with
   | cells cs=>cases h
   | bcv _ _=>cases h
   | bldr _ _=>cases h
   | raw _=>cases h
   | barr e mu l=>
    cases mu with
    | true=>cases h
    | false=>
     cases h
     obtain ⟨a2,cap2,hg',hA⟩:=hs.ob id _ ho
     rw [hg] at hg'; cases hg'
     cases ad with
     | none=>
      have h0:=hA.none
      have hl:l=[]:=List.eq_nil_of_length_eq_zero h0.1
      subst hl
      rw [h0.2]
      exact .p _ _ .bytesNil
     | some g=>
      refine .p _ _ (.bytes l g 0 cap hA.len (cap_ge hA) fun i c hc=>?_)
      have:=hA.mem g rfl
      simp only [Bool.false_eq_true,if_false] at this
      rw [Nat.zero_add,this i,List.getElem?_map,hc]; rfl
   | larr e mu k' R=>
    cases mu with
    | true=>cases h
    | false=>
     cases h
     obtain ⟨a2,cap2,vs,hg',hv,hA⟩:=hs.ob id _ ho
     rw [hg] at hg'; cases hg'
     cases ad with
     | none=>
      have h0:=hA.none
      obtain ⟨h1,rfl⟩:=h0
      rw [h1]
      exact .p _ _ (.listNil _ _ h1)
     | some g=>
      have hmem:=hA.mem g rfl
      simp only [Bool.false_eq_true,if_false] at hmem
      refine .p _ _ (.list _ R g 0 cap (fun i j=>vs.getD (i * k+j) undef) hA.len (cap_ge hA) (fun i j hi hj=>?_) (fun i j hi hj=>?_))
      .obtain ⟨u,hu,_⟩:=hv i j hi hj
       rw [Nat.zero_add,hmem,hu,List.getD_eq_getElem?_getD,hu]; rfl
      .obtain ⟨u,hu,hp⟩:=hv i j hi hj
       rw [List.getD_eq_getElem?_getD,hu]; exact hp
 | _=>cases h
theorem snap_rel (hs:StG C γ M s a w) {x z:AV} (h:snap s.ob x=some z) {v:Value} (hx:ARel γ M x v):ARel γ0 M z v:=by
 cases x with
 | agg cs=>
  obtain ⟨zs,hz,he⟩:=map_some h
  cases he
  obtain ⟨vs,rfl,hsz,hr⟩:=hx.agg_inv
  obtain ⟨h1,h2⟩:=allSome_get hz
  refine .agg _ _ (by omega) fun i hi=>?_
  have hi':i < cs.length:=by omega
  obtain ⟨y,hy,hf⟩:=h2 i _ (List.getElem?_eq_getElem hi')
  have:=hr i hi'
  rw [List.getD_eq_getElem?_getD,List.getElem?_eq_getElem hi'] at this
  rw [List.getD_eq_getElem?_getD,hy]
  exact snap1_rel hs hf this
 | clo fn fs cs=>
  cases fs with
  | nil=>
   cases cs with
   | nil=>
    cases h
    cases hx with
    | clo _ _ _ vf vc hf hc h1 h2=>exact .clo _ _ _ _ _ hf hc (fun i hi=>absurd hi (Nat.not_lt_zero _)) (fun i hi=>absurd hi (Nat.not_lt_zero _))
   | cons _ _=>cases h
  | cons _ _=>cases h
 | any=>exact snap1_rel hs (x:=.any) h hx
 | p q=>exact snap1_rel hs (x:=.p _) h hx
 | ref _ _=>exact snap1_rel hs (x:=.ref _ _) h hx
 | arr _=>exact snap1_rel hs (x:=.arr _) h hx
 | aptr _ _ _=>exact snap1_rel hs (x:=.aptr _ _ _) h hx
 | tup _=>exact snap1_rel hs (x:=.tup _) h hx
 | gd _ _=>exact snap1_rel hs (x:=.gd _ _) h hx
theorem snaps_rel (hs:StG C γ M s a w):∀ {xs zs:List AV} {vs:List Value},allSome (snap s.ob) xs=some zs->ARels γ M xs vs->ARels γ0 M zs vs:=by
 intro xs
 induction xs with
 | nil=>intro zs vs h hx; cases h; cases hx; exact .nil
 | cons x xs ih=>
  intro zs vs h hx
  cases hx with
  | cons h1 h2=>
   simp only [allSome] at h
   cases hz:snap s.ob x with
   | none=>rw [hz] at h; cases h
   | some z=>
    cases hr:allSome (snap s.ob) xs with
    | none=>rw [hz,hr] at h; cases h
    | some zs'=>
     rw [hz,hr] at h; cases h
     exact .cons (snap_rel hs hz h1) (ih hr h2)
def evC (env:Env) (ob:Nat->Option AObj) (op:Op) (xs:List AV):Option (AV×Option Prop):=
 match op with
 | .call ⟨.value _,_,_⟩=>match xs with
  | .clo (.func f) fs cs::ys=>match allSome (snap ob) (fs++(ys++cs)) with
   | some zs=>env f zs
   | none=>none
  | _=>none
 | _=>none
theorem ARels.append {xs ys:List AV} {vs us:List Value} (h:ARels γ M xs vs) (k:ARels γ M ys us):ARels γ M (xs++ys) (vs++us):=by
 induction h with
 | nil=>exact k
 | cons h _ ih=>exact .cons h ih
theorem ARels.of_get:∀ {xs:List AV} {vs:List Value},vs.length=xs.length->(∀ i,i < xs.length->ARel γ M (xs.getD i .any) (vs.getD i undef))->ARels γ M xs vs
 | [],[],_,_=>.nil
 | [],_::_,h,_=>by cases h
 | _::_,[],h,_=>by cases h
 | x::xs,v::vs,h,hr=>.cons (hr 0 (by simp)) (ARels.of_get (by simpa using h) fun i hi=>hr (i+1) (by simpa using hi))
theorem evC_sound {env:Env} (henv:EnvOk P env) (hs:StG C γ M s a w) (o:Oper) (hd:dstOk C.nt o.dst=true) {xs:List AV} {r:AV} {ok:Option Prop}
 (h:evC env s.ob o.op xs=some (r,ok)) (hok:okP ok) (hx:ARels γ M xs (o.op.operands.toList.map a.eval)) {next:Act->World->Prop} {Q:Exit->Act->World->Prop}
 (hn:∀ v M' w',ARel γ M' r v->StG C γ M' (aset s o.dst r) (a.put o.dst v) w'->next (a.put o.dst v) w'):o.wpIn (FW C.rd) 0 P a w next Q:=by
 obtain ⟨dst,op,type,pos,after,guard⟩:=o
 dsimp only at hx h hd hn
 cases op <;> simp only [evC,reduceCtorEq] at h
 rename_i c
 obtain ⟨callee,args,ts⟩:=c
 cases callee with
 | invoke r m=>cases h
 | builtin b=>cases h
 | value f=>
  dsimp only at h
  have hx':ARels γ M xs (a.eval f::args.toList.map a.eval):=by simpa [Op.operands,Call.operands] using hx
  cases hx' with
  | cons h1 h2=>
   rename_i x ys
   split at h
   .rename_i f' fs cs ys' heq
    cases heq
    split at h
    .rename_i zs hz
     have hcp:=henv f' zs r ok h hok
     generalize hfv:a.eval f=fv at h1
     cases h1 with
     | clo _ _ _ vf vc hf hc g1 g2=>
      have hall:ARels γ M (fs++(ys++cs)) (vf.toList++(args.toList.map a.eval++vc.toList)):=by
       refine (ARels.of_get (by simpa using hf) fun i hi=>?_).append (h2.append (ARels.of_get (by simpa using hc) fun i hi=>?_))
       .have:=g1 i hi; rw [Array.getD_eq_getD_getElem?] at this; simpa [List.getD_eq_getElem?_getD] using this
       .have:=g2 i hi; rw [Array.getD_eq_getD_getElem?] at this; simpa [List.getD_eq_getElem?_getD] using this
      have hz':=snaps_rel hs hz hall
      have hrun0:(execOp a.eval ⟨dst,.call ⟨.value f,args,ts⟩,type,pos,after,guard⟩).run P w=(callFunc f' (vf.toList++(args.toList.map a.eval++vc.toList)).toArray).run P w:=by
       simp only [execOp,resolve,hfv,Deferred.ofValue,Sem.run_bind,Sem.run_pure,Result.andThen_ok,invoke]
       have e:vf++args.map a.eval++vc=(vf.toList++(args.toList.map a.eval++vc.toList)).toArray:=by
        apply Array.ext'; simp
       rw [e]
      rcases hcp with ⟨hcall,hfn⟩ | hext
      .have hC:=hfn M w _ hs.mem hz'
       refine wpIn_call (hrun0.trans (run_callFunc hcall _ w)) (hC.mono fun e w' ⟨v,M',he,hle,hnew,hmem,hr,hb⟩=>⟨v,he,?_⟩)
       have hr':ARel γ M' r v:=hr.mono (fun _ _ hx=>by cases hx) (MLe.refl M')
       exact hn v M' w' hr' (hs.put hd hle hb.size (fun b hb'=>⟨hb.block b hb',hnew b hb'⟩) hmem hb.os hb.tape hb.output hr')
      .obtain ⟨v,hv,hr⟩:=hext M w _ hs.mem hz'
       have hr':ARel γ M r v:=hr.mono (fun _ _ hx=>by cases hx) (MLe.refl M)
       refine wpIn_value (hrun0.trans hv) ?_
       exact hn v M w hr' (hs.put hd (MLe.refl M) (Nat.le_refl _) (fun b hb'=>⟨rfl,rfl⟩) hs.mem rfl rfl rfl hr')
    .cases h
   .cases h
end Go.Am
namespace Go.Am
open Go Go.RowKit
variable {P:Program} {γ γ':Nat->Option G} {M M':Mem} {C:Ctx} {s s':S} {a a':Act} {w w':World}
def All:List Prop->Prop
 | []=>True
 | p::r=>p/\All r
theorem All.append {l r:List Prop} (h:All (l++r)):All l/\All r:=by
 induction l with
 | nil=>exact ⟨trivial,h⟩
 | cons p l ih=>exact ⟨⟨h.1,(ih h.2).1⟩,(ih h.2).2⟩
theorem All.mk {l r:List Prop} (h:All l) (k:All r):All (l++r):=by
 induction l with
 | nil=>exact k
 | cons p l ih=>exact ⟨h.1,ih h.2⟩
abbrev Gd:=Option Bool
def Gd.holds:Gd->Prop
 | none=>True
 | some c=>c=true
def under (g:Gd) (p:Prop):Prop:=
 match g with
 | none=>p
 | some c=>c=true->p
theorem under_use {g:Gd} {p:Prop} (h:under g p) (hg:g.holds):p:=by
 cases g with
 | none=>exact h
 | some c=>exact h hg
def strip1 (g:Gd):AV->AV×List Prop
 | .gd c y=>(y,[under g (c=true)])
 | x=>(x,[])
def strip (g:Gd):List AV->List AV×List Prop
 | []=>([],[])
 | x::r=>((strip1 g x).1::(strip g r).1,(strip1 g x).2++(strip g r).2)
def stripOp (g:Gd) (op:Op) (xs:List AV):List AV×List Prop:=
 match op,xs with
 | .pick _ _ _,x::r=>((strip1 g x).1::r,(strip1 g x).2)
 | _,xs=>strip g xs
theorem strip1_rel {g:Gd} {x:AV} {v:Value} (h:ARel γ M x v) (hg:g.holds) (ho:All (strip1 g x).2):ARel γ M (strip1 g x).1 v:=by
 cases x with
 | gd c y=>exact h.gd_inv (under_use ho.1 hg)
 | _=>exact h
theorem strip_rel {g:Gd} (hg:g.holds) {xs:List AV} {vs:List Value} (h:ARels γ M xs vs):All (strip g xs).2->ARels γ M (strip g xs).1 vs:=by
 induction h with
 | nil=>intro _; exact .nil
 | cons h _ ih=>
  intro ho
  have:=All.append ho
  exact .cons (strip1_rel h hg this.1) (ih this.2)
theorem stripOp_rel {g:Gd} (hg:g.holds) {op:Op} {xs:List AV} {vs:List Value} (h:ARels γ M xs vs) (ho:All (stripOp g op xs).2):ARels γ M (stripOp g op xs).1 vs:=by
 unfold stripOp at *
 split at ho
 .cases h with
  | cons h1 h2=>exact .cons (strip1_rel h1 hg ho) h2
 .exact strip_rel hg h ho
def guardOf (ops:Array Oper) (sl:Nat->AV) (o:Oper):Option Gd:=
 match o.guard with
 | none=>some none
 | some (j,want)=>match (ops[j]?).bind (·.dst) with
  | some t=>match sl t with
   | .p (.bool c)=>some (some (match want with | true=>c | false=>!c))
   | .gd c1 (.p (.bool c))=>some (some (c1&&(match want with | true=>c | false=>!c)))
   | _=>none
  | none=>none
theorem guardOf_spec {ops:Array Oper} {o:Oper} {g:Gd} (hs:StG C γ M s a w) (h:guardOf ops s.sl o=some g):
 (g.holds->Region.wanted o (yielded ops a.tmps)=true)/\(¬ g.holds->Region.wanted o (yielded ops a.tmps)=false):=by
 unfold guardOf at h
 unfold Region.wanted
 cases hg:o.guard with
 | none=>rw [hg] at h; cases h; exact ⟨fun _=>rfl,fun hn=>absurd trivial hn⟩
 | some jw=>
  obtain ⟨j,want⟩:=jw
  rw [hg] at h
  dsimp only at h ⊢
  cases ht:(ops[j]?).bind (·.dst) with
  | none=>rw [ht] at h; cases h
  | some t=>
   rw [ht] at h
   dsimp only at h
   have hr:=hs.sl t
   have hy:∀ v,a.tmps.getD t undef=v->yielded ops a.tmps j=match v with | .bool b=>some b | _=>none:=by
    intro v hv
    unfold yielded
    rw [ht]
    show (match a.tmps[t]? with | some (.bool b)=>some b | _=>none)=_
    rw [Array.getD_eq_getD_getElem?] at hv
    cases hq:a.tmps[t]? with
    | none=>rw [hq] at hv; rw [<-hv]; rfl
    | some u=>rw [hq] at hv; rw [<-hv]; cases u <;> rfl
   split at h
   .rename_i c hsl
    cases h
    rw [hsl] at hr
    have:=hy _ hr.bool_inv
    rw [this]
    cases want <;> cases c <;> simp [Gd.holds]
   .rename_i c1 c hsl
    cases h
    rw [hsl] at hr
    cases hr with
    | gd _ _ _ h1 h0=>
     cases c1 with
     | false=>
      have:=hy _ (h0 rfl)
      rw [this]
      simp [Gd.holds,undef]
     | true=>
      have:=hy _ (h1 rfl).bool_inv
      rw [this]
      cases want <;> cases c <;> simp [Gd.holds]
   .cases h
def evV (P:Program) (env:Env) (ob:Nat->Option AObj) (op:Op) (xs:List AV):Option (AV×Option Prop):=
 match evP P op xs with
 | some r=>some r
 | none=>match evL P ob op xs with
  | some r=>some r
  | none=>match op with
   | .build t ps=>evBuild P t (ps.toList.map (·.1)) xs
   | op=>evC env ob op xs
def guarded (g:Gd) (r:AV):AV:=
 match g with
 | none=>r
 | some c=>.gd c r
def oks (g:Gd):Option Prop->List Prop
 | none=>[]
 | some p=>[under g p]
def evE (P:Program) (s:S) (o:Oper) (xs:List AV):Option (S×Option Prop):=
 match o.op with
 | .store t _ _=>match o.dst with
  | none=>(evStore P s.ob t xs).map fun r=>({ s with ob:=upd s.ob r.1 (some r.2.1) },r.2.2)
  | some _=>none
 | .call ⟨.builtin .append,_,ts⟩=>match ts[0]?,ts[1]?,o.dst,xs with
  | some t,some tx,some d,[x,y]=>match s.us d,ts.size with
   | false,2=>(evAppend P s.ob t tx [x,y]).map fun r=>(sappend s d r.2.1 r.1,r.2.2)
   | _,_=>none
  | _,_,_,_=>none
 | op=>match evB P op xs,o.dst with
  | some (ob,ok),some d=>match s.us d,s.ob d with
   | false,none=>some (sbirth s d ob,ok)
   | _,_=>none
  | _,_=>none
def astep (P:Program) (env:Env) (nt:Nat) (ops:Array Oper) (o:Oper) (s:S):Option (S×List Prop):=
 match guardOf ops s.sl o,dstOk nt o.dst with
 | some g,true=>
  match evV P env s.ob o.op (stripOp g o.op (o.op.operands.toList.map (aev s.sl))).1 with
  | some (r,ok)=>some (aset s o.dst (guarded g r),(stripOp g o.op (o.op.operands.toList.map (aev s.sl))).2++oks g ok)
  | none=>match g with
   | some _=>none
   | none=>(evE P s o (stripOp none o.op (o.op.operands.toList.map (aev s.sl))).1).map fun r=>(r.1,(stripOp none o.op (o.op.operands.toList.map (aev s.sl))).2++oks none r.2)
 | _,_=>none
theorem lits (a:Act):Lits a.eval:=fun _=>rfl
theorem evV_sound {env:Env} (henv:EnvOk P env) (hs:StG C γ M s a w) (o:Oper) (hd:dstOk C.nt o.dst=true) {xs:List AV} {r:AV} {ok:Option Prop}
 (h:evV P env s.ob o.op xs=some (r,ok)) (hok:okP ok) (hx:ARels γ M xs (o.op.operands.toList.map a.eval)) {next:Act->World->Prop} {Q:Exit->Act->World->Prop}
 (hn:∀ v M' w',ARel γ M' r v->StG C γ M' (aset s o.dst r) (a.put o.dst v) w'->next (a.put o.dst v) w'):o.wpIn (FW C.rd) 0 P a w next Q:=by
 have val:∀ v,(execOp a.eval o).run P w=.ok (.value v) w->ARel γ M r v->o.wpIn (FW C.rd) 0 P a w next Q:=fun v hv hr=>by
  refine wpIn_value hv ?_
  exact hn v M w hr (hs.put hd (MLe.refl M) (Nat.le_refl _) (fun b _=>⟨rfl,rfl⟩) hs.mem rfl rfl rfl hr)
 unfold evV at h
 cases h1:evP P o.op xs with
 | some q=>
  rw [h1] at h; cases h
  obtain ⟨v,hv,hr⟩:=evP_sound (P:=P) o a.eval (lits a) h1 hok hx w
  exact val v hv hr
 | none=>
  rw [h1] at h
  cases h2:evL P s.ob o.op xs with
  | some q=>
   rw [h2] at h; cases h
   obtain ⟨v,hv,hr⟩:=evL_sound (P:=P) hs o h2 hok hx
   exact val v hv hr
  | none=>
   rw [h2] at h
   dsimp only at h
   split at h
   .rename_i t ps hop
    rw [hop] at hx
    have hx':ARels γ M xs (ps.toList.map fun p=>a.eval p.2):=by simpa [Op.operands,Function.comp_def] using hx
    obtain ⟨v,hv,hr⟩:=evBuild_sound (P:=P) h hx' w
    refine val v ?_ hr
    obtain ⟨dst,op,type,pos,after,guard⟩:=o
    dsimp only at hop
    subst hop
    simp [execOp,hv]
   .exact evC_sound henv hs o hd h hok hx hn
theorem evE_sound (hs:StG C γ M s a w) (o:Oper) (hd:dstOk C.nt o.dst=true) {xs:List AV} {s':S} {ok:Option Prop}
 (h:evE P s o xs=some (s',ok)) (hok:okP ok) (hx:ARels γ M xs (o.op.operands.toList.map a.eval)) {next:Act->World->Prop} {Q:Exit->Act->World->Prop}
 (hn:∀ γ' M' a' w',StG C γ' M' s' a' w'->next a' w'):o.wpIn (FW C.rd) 0 P a w next Q:=by
 unfold evE at h
 obtain ⟨dst,op,type,pos,after,guard⟩:=o
 dsimp only at hx h hd
 split at h
 .rename_i t x y
  cases dst with
  | some d=>cases h
  | none=>
   dsimp only at h
   obtain ⟨⟨id,ob',ok'⟩,hst,he⟩:=map_some h
   cases he
   simp only [Op.operands,List.map_cons,List.map_nil] at hx
   cases hx with
   | cons h1 hx=>cases hx with
    | cons h2 hx=>cases hx with
     | nil=>
      obtain ⟨w',hrun,hst'⟩:=evStore_sound (P:=P) hs hst hok h1 h2
      have e:(execOp a.eval ⟨none,.store t x y,type,pos,after,guard⟩).run P w=.ok .skip w':=by
       simp only [execOp,Sem.run_bind,hrun,Result.andThen_ok]; rfl
      refine wpIn_skip' e ?_
      exact hn _ _ _ _ hst'
 .rename_i args ts
  split at h
  .rename_i t tx d x y ht htx
   split at h
   .rename_i hus hsz
    obtain ⟨⟨ob',old,ok'⟩,hst,he⟩:=map_some h
    cases he
    have hx':ARels γ M [x,y] (args.toList.map a.eval):=by simpa [Op.operands,Call.operands] using hx
    cases args with
    | mk al=>
    dsimp only at hx'
    generalize hvs:al.map a.eval=vs at hx'
    have hal:(List.toArray al).map a.eval=vs.toArray:=by rw [<-hvs]; simp
    cases hx' with
    | cons h1 hx=>cases hx with
     | cons h2 hx=>cases hx with
      | nil=>
       rename_i u v
       obtain ⟨r,w',γ',M',hrun,hst'⟩:=evAppend_sound (P:=P) (ty:=type) hs hd hus hst hok h1 h2
       have hts:ts=#[t,tx]:=by
        apply Array.ext'
        match hq:ts,hsz with
        | ⟨[p,q]⟩,_=>simp [] at ht htx; simp [ht,htx]
       have e:(execOp a.eval ⟨some d,.call ⟨.builtin .append,⟨al⟩,ts⟩,type,pos,after,guard⟩).run P w=.ok (.value r) w':=by
        simp only [execOp,resolve,Sem.run_bind,Sem.run_pure,Result.andThen_ok,invoke,builtin,hal,hts,hrun]
       refine wpIn_value e ?_
       exact hn _ _ _ _ hst'
   .cases h
  .cases h
 .rename_i hne1 hne2
  split at h
  .rename_i ob' ok' d hB
   split at h
   .rename_i hus hob
    cases h
    obtain ⟨v,w',γ',M',hrun,hst'⟩:=evB_sound (P:=P) hs ⟨some d,op,type,pos,after,guard⟩ rfl hd hus hB hok hx
    refine wpIn_value hrun ?_
    exact hn _ _ _ _ hst'
   .cases h
  .cases h
theorem astep_sound {env:Env} (henv:EnvOk P env) {ops:Array Oper} {o:Oper} {ps:List Prop} (h:astep P env C.nt ops o s=some (s',ps)) (hps:All ps)
 (hs:St C s a w) {next:Act->World->Prop} {Q:Exit->Act->World->Prop} (hn:∀ a' w',St C s' a' w'->next a' w'):
 if Region.wanted o (yielded ops a.tmps) then o.wpIn (FW C.rd) 0 P a w next Q else next (a.put o.dst undef) w:=by
 obtain ⟨γ,M,hs⟩:=hs
 unfold astep at h
 split at h
 .rename_i g hg hd
  have hargs:ARels γ M (o.op.operands.toList.map (aev s.sl)) (o.op.operands.toList.map a.eval):=ARels.map (aev_rel hs.sl) _
  obtain ⟨hw1,hw2⟩:=guardOf_spec hs hg
  split at h
  .rename_i r ok hV
   cases h
   obtain ⟨p1,p2⟩:=All.append hps
   by_cases hh:g.holds
   .rw [if_pos (hw1 hh)]
    have hok:okP ok:=by
     cases ok with
     | none=>trivial
     | some p=>exact under_use p2.1 hh
    refine evV_sound henv hs o hd hV hok (stripOp_rel hh hargs p1) fun v M' w' hr hst=>hn _ _ ⟨γ,M',?_⟩
    cases g with
    | none=>exact hst
    | some c=>
     refine { hst with sl:=fun t=>?_ }
     have h1:=hst.sl t
     show ARel γ M' (pset s.sl o.dst (.gd c r) t) _
     have h1':ARel γ M' (pset s.sl o.dst r t) ((a.put o.dst v).tmps.getD t undef):=h1
     cases hdst:o.dst with
     | none=>rw [hdst] at h1'; exact h1'
     | some d=>
      rw [hdst] at h1'
      by_cases e:t=d
      .subst e
       simp only [pset] at h1' ⊢
       rw [upd_same] at h1' ⊢
       exact .gd c r _ (fun _=>h1') (fun hc=>absurd (hh.symm.trans hc) (by simp))
      .simp only [pset] at h1' ⊢
       rw [upd_ne _ _ e] at h1' ⊢
       exact h1'
   .rw [if_neg (by rw [hw2 hh]; simp)]
    cases g with
    | none=>exact absurd trivial hh
    | some c=>
     have hc:c=false:=by cases c with | false=>rfl | true=>exact absurd rfl hh
     subst hc
     refine hn _ _ ⟨γ,M,hs.put hd (MLe.refl M) (Nat.le_refl _) (fun b _=>⟨rfl,rfl⟩) hs.mem rfl rfl rfl (.gd false r undef (fun e=>by cases e) fun _=>rfl)⟩
  .split at h
   .cases h
   .rw [if_pos (hw1 trivial)]
    obtain ⟨⟨s2,ok⟩,hE,he⟩:=map_some h
    cases he
    obtain ⟨p1,p2⟩:=All.append hps
    have hok:okP ok:=by
     cases ok with
     | none=>trivial
     | some p=>exact p2.1
    exact evE_sound hs o hd hE hok (stripOp_rel (g:=none) trivial hargs p1) fun γ' M' a' w' hst=>hn _ _ ⟨γ',M',hst⟩
 .cases h
end Go.Am
namespace Go.Am
open Go Go.RowKit
variable {P:Program} {γ γ':Nat->Option G} {M M':Mem} {C:Ctx} {s s':S} {a a':Act} {w w':World}
def aops (P:Program) (env:Env) (nt:Nat) (ops:Array Oper):List Nat->S->Option (S×List Prop)
 | [],s=>some (s,[])
 | i::r,s=>match ops[i]? with
  | none=>none
  | some o=>match astep P env nt ops o s with
   | none=>none
   | some (s1,p1)=>match aops P env nt ops r s1 with
    | none=>none
    | some (s2,p2)=>some (s2,p1++p2)
theorem aops_sound {env:Env} (henv:EnvOk P env) {ops:Array Oper} {Q:Exit->Act->World->Prop}:∀ (l:List Nat) {s s':S} {ps:List Prop} {a:Act} {w:World},
 aops P env C.nt ops l s=some (s',ps)->All ps->St C s a w->(∀ a' w',St C s' a' w'->Q .normal a' w')->wpOpsIn (FW C.rd) 0 P ops Q l a w:=by
 intro l
 induction l with
 | nil=>intro s s' ps a w h hp hs hq; cases h; exact hq a w hs
 | cons i r ih=>
  intro s s' ps a w h hp hs hq
  simp only [aops] at h
  simp only [wpOpsIn]
  cases ho:ops[i]? with
  | none=>rw [ho] at h; cases h
  | some o=>
   rw [ho] at h
   dsimp only at h ⊢
   cases h1:astep P env C.nt ops o s with
   | none=>rw [h1] at h; cases h
   | some q=>
    obtain ⟨s1,p1⟩:=q
    rw [h1] at h
    dsimp only at h
    cases h2:aops P env C.nt ops r s1 with
    | none=>rw [h2] at h; cases h
    | some q=>
     obtain ⟨s2,p2⟩:=q
     rw [h2] at h
     cases h
     obtain ⟨hp1,hp2⟩:=All.append hp
     have:=astep_sound henv h1 hp1 hs (next:=wpOpsIn (FW C.rd) 0 P ops Q r) (Q:=Q) fun a' w' hs'=>ih h2 hp2 hs' hq
     split
     .rename_i hw; rw [if_pos hw] at this; exact this
     .rename_i hw; rw [if_neg hw] at this; exact ⟨fun _ _=>trivial,this⟩
theorem St.drew (h:St C s a w):St C s a { w with drawn:=w.drawn+1 }:=by
 obtain ⟨γ,M,h⟩:=h
 exact ⟨γ,M,h.sl,(fun id o ho=>(h.ob id o ho).keep (GLe.refl γ) (MLe.refl M) fun _ _ _ _=>⟨rfl,rfl⟩),h.us,h.sep,h.lo,(fun b o v hv=>h.mem b o v hv),h.le,h.new,⟨h.fr.os,h.fr.tape,h.fr.output,h.fr.size,h.fr.block⟩,h.df,h.nt,h.gl⟩
def T (P:Program) (C:Ctx) (c:Code) (s:S) (Q:Exit->S->Prop):Prop:=
 ∀ a w,St C s a w->c.wpIn (FW C.rd) 0 P (fun e a' w'=>∃ s',Q e s'/\St C s' a' w') a w
def Sub (C:Ctx) (s s':S):Prop:=∀ a w,St C s a w->St C s' a w
theorem T.conseq {c:Code} {Q R:Exit->S->Prop} (h:T P C c s Q) (k:∀ e s',Q e s'->R e s'):T P C c s R:=
 fun a w hs=>wpIn_mono (h a w hs) fun e a' w' ⟨s',hq,hs'⟩=>⟨s',k e s' hq,hs'⟩
theorem T.weaken {c:Code} {Q:Exit->S->Prop} (h:T P C c s' Q) (k:Sub C s s'):T P C c s Q:=fun a w hs=>h a w (k a w hs)
theorem T_region {env:Env} (henv:EnvOk P env) {id:Nat} {ops:Array Oper} {Q:Exit->S->Prop} {ps:List Prop}
 (h:aops P env C.nt ops (List.range ops.size) s=some (s',ps)) (hp:All ps) (hq:Q .normal s'):T P C (.region id ops false) s Q:=
 fun _ _ hs=>wpIn_region (aops_sound henv _ h hp hs fun _ _ hs'=>⟨s',hq,hs'⟩)
def Then (K:S->Prop) (Q:Exit->S->Prop):Exit->S->Prop
 | .normal,s=>K s
 | e,s=>Q e s
def InBlock (id:Nat) (Q:Exit->S->Prop):Exit->S->Prop
 | .exit id',s=>if id'=id then Q .normal s else Q (.exit id') s
 | e,s=>Q e s
theorem T_seq {x y:Code} {Q:Exit->S->Prop} (h:T P C x s (Then (fun s'=>T P C y s' Q) Q)):T P C (.seq x y) s Q:=by
 intro a w hs
 refine wpIn_seq (wpIn_mono (h a w hs) fun e a' w' ⟨s',hq,hs'⟩=>?_)
 cases e <;> first
  | exact hq a' w' hs'
  | exact ⟨s',hq,hs'⟩
theorem T_cond {c:Operand} {x y:Code} {Q:Exit->S->Prop} {b:Bool} (hc:aev s.sl c=.p (.bool b)) (h1:b=true->T P C x s Q) (h2:b=false->T P C y s Q):T P C (.cond c x y) s Q:=by
 intro a w hs
 obtain ⟨γ,M,hg⟩:=hs
 have:=aev_rel hg.sl c
 rw [hc] at this
 exact wpIn_cond_split this.bool_inv (fun hb=>h1 hb a w ⟨γ,M,hg⟩) (fun hb=>h2 hb a w ⟨γ,M,hg⟩)
theorem T_block {id:Nat} {c:Code} {Q:Exit->S->Prop} (h:T P C c s (InBlock id Q)):T P C (.block id c) s Q:=by
 intro a w hs
 refine wpIn_block (wpIn_mono (h a w hs) fun e a' w' ⟨s',hq,hs'⟩=>?_)
 cases e <;> first
  | exact ⟨s',hq,hs'⟩
  | (simp only [Exit.inBlock,InBlock] at *; split <;> rename_i hi <;> simp only [hi,if_true,if_false] at hq <;> exact ⟨s',hq,hs'⟩)
theorem T_skip {Q:Exit->S->Prop} (h:Q .normal s):T P C .skip s Q:=fun _ _ hs=>wpIn_skip ⟨s,h,hs⟩
theorem T_label {l:Nat} {Q:Exit->S->Prop} (h:Q .normal s):T P C (.label l) s Q:=fun _ _ hs=>wpIn_label ⟨s,h,hs⟩
theorem T_exit {id:Nat} {Q:Exit->S->Prop} (h:Q (.exit id) s):T P C (.exit id) s Q:=fun _ _ hs=>wpIn_exit ⟨s,h,hs⟩
theorem T_ret {Q:Exit->S->Prop} (h:Q .ret s):T P C .ret s Q:=fun _ _ hs=>wpIn_ret ⟨s,h,hs⟩
theorem T_loop {c:Code} {Q:Exit->S->Prop} (R:Nat->S->Prop)
 (round:∀ n s,R n s->T P C c s (Then (fun s'=>∃ m s2,m < n/\R m s2/\Sub C s' s2) Q)) (n:Nat) (h:R n s):T P C (.loop c) s Q:=by
 intro a w hs
 refine wpIn_loop_f (fun n a w=>∃ s,R n s/\St C s a w) (fun n a w ⟨s,hR,hs⟩=>wpIn_mono (round n s hR a w hs) fun e a' w' ⟨s',hq,hs'⟩=>?_) n ⟨s,h,hs⟩
 cases e <;> first
  | (obtain ⟨m,s2,hm,hR2,hsub⟩:=hq; exact ⟨m,hm,s2,hR2,hsub a' w' hs'⟩)
  | exact ⟨s',hq,hs'⟩
def at_:Code->List Nat->Code
 | c,[]=>c
 | .seq x y,i::p=>match i with | 0=>at_ x p | _=>at_ y p
 | .cond _ x y,i::p=>match i with | 0=>at_ x p | _=>at_ y p
 | .block _ x,_::p=>at_ x p
 | .loop x,_::p=>at_ x p
 | .scope x,_::p=>at_ x p
 | c,_::_=>c
def opsOf:Code->Array Oper
 | .region _ ops _=>ops
 | _=>#[]
def condOf:Code->Operand
 | .cond c _ _=>c
 | _=>.const (.bool false)
def aresult (P:Program) (s:S):ResultVar->Option AV
 | .tmp t=>snap s.ob (s.sl t)
 | .cell t ty=>match evLoad P s.ob ty [s.sl t] with
  | some (r,none)=>snap s.ob r
  | _=>none
def aresults (P:Program) (s:S) (rs:List ResultVar):Option AV:=
 match allSome (aresult P s) rs with
 | some [r]=>some r
 | some l=>some (.tup l)
 | none=>none
def resF (tmps:Array Value):ResultVar->Sem Value
 | .tmp t=>pure (tmps.getD t undef)
 | .cell t ty=>do loadVar ty (<-asAddr (tmps.getD t undef))
theorem results_eq (fn:Func) (tmps:Array Value):results fn tmps=(do let vs <-fn.results.mapM (resF tmps); pure (if h:vs.size=1 then vs[0] else .tuple vs)):=by
 have e:(fun x=>match x with | .tmp t=>pure (tmps.getD t undef) | .cell a t=>do loadVar t (<-asAddr (tmps.getD a undef)))=resF tmps:=by
  funext x; cases x <;> rfl
 rw [<-e]
 rfl
theorem run_res_cell {ty:TypeId} {v u:Value} (h:(Instr.loadAt ty v).run P w=.ok u w):(do loadVar ty (<-asAddr v):Sem Value).run P w=.ok u w:=by
 unfold Instr.loadAt at h
 cases v with
 | pointer p=>
  cases p with
  | some ad=>exact h
  | none=>rw [Sem.run_bind] at h; simp [Instr.sureAddr] at h
 | _=>rw [Sem.run_bind] at h; simp [Instr.sureAddr] at h
theorem aresult_sound (hs:StG C γ M s a w) {rv:ResultVar} {r:AV} (h:aresult P s rv=some r):
 ∃ v,(resF a.tmps rv).run P w=.ok v w/\ARel γ0 M r v:=by
 cases rv with
 | tmp t=>exact ⟨_,rfl,snap_rel hs h (hs.sl t)⟩
 | cell t ty=>
  simp only [aresult] at h
  split at h
  .rename_i r' hl
   obtain ⟨u,hu,hr⟩:=evLoad_sound (P:=P) hs hl trivial (hs.sl t)
   exact ⟨u,run_res_cell hu,snap_rel hs h hr⟩
  .cases h
theorem aresults_sound (hs:StG C γ M s a w) (fn:Func) {r:AV} (h:aresults P s fn.results.toList=some r):
 ∃ v,(results fn a.tmps).run P w=.ok v w/\ARel γ0 M r v:=by
 have key:∀ (l:List ResultVar) (rs:List AV),allSome (aresult P s) l=some rs->∃ vs:List Value,
  (l.mapM (resF a.tmps)).run P w=.ok vs w/\ARels γ0 M rs vs:=by
  intro l
  induction l with
  | nil=>intro rs h; cases h; exact ⟨[],rfl,.nil⟩
  | cons x l ih=>
   intro rs h
   simp only [allSome] at h
   cases hx:aresult P s x with
   | none=>rw [hx] at h; cases h
   | some y=>
    cases hl:allSome (aresult P s) l with
    | none=>rw [hx,hl] at h; cases h
    | some ys=>
     rw [hx,hl] at h; cases h
     obtain ⟨v,hv,hr⟩:=aresult_sound (P:=P) hs hx
     obtain ⟨vs,hvs,hrs⟩:=ih ys hl
     refine ⟨v::vs,?_,.cons hr hrs⟩
     rw [List.mapM_cons]
     simp only [Sem.run_bind,hv,Sem.run_pure,Result.andThen_ok,hvs]
 unfold aresults at h
 cases hl:allSome (aresult P s) fn.results.toList with
 | none=>rw [hl] at h; cases h
 | some rs=>
  obtain ⟨vs,hvs,hrs⟩:=key _ _ hl
  have hm:(fn.results.mapM (resF a.tmps)).run P w=.ok vs.toArray w:=by
   rw [Array.mapM_eq_mapM_toList,Sem.run_map,hvs]; rfl
  have hres:(results fn a.tmps).run P w=.ok (if h:vs.toArray.size=1 then vs.toArray[0] else .tuple vs.toArray) w:=by
   rw [results_eq,Sem.run_bind,hm]
   rfl
  rw [hl] at h
  refine ⟨_,hres,?_⟩
  have hlen:=hrs.length
  split at h
  .rename_i r' heq
   cases heq; cases h
   cases hrs with
   | cons h1 h2=>cases h2 with | nil=>simpa using h1
  .rename_i l hne heq
   cases heq; cases h
   have hn1:vs.length≠1:=by
    intro e
    match rs,hlen with
    | [r],_=>exact hne r rfl
    | [],hl0=>simp at hl0; rw [hl0] at e; cases e
    | _::_::_,hl0=>simp at hl0; omega
   rw [dif_neg (by simpa using hn1)]
   refine .tup _ _ (by simp [hlen]) fun i hi=>?_
   have:=hrs.get i hi
   simpa [Array.getD_eq_getD_getElem?,List.getD_eq_getElem?_getD] using this
  .rename_i heq; cases heq
def sinit (args:List AV):S:={ sl:=fun i=>args.getD i .any,ob:=fun _=>none,us:=fun _=>false }
def Qfn (P:Program) (rs:List ResultVar) (r:AV):Exit->S->Prop
 | .normal,s=>aresults P s rs=some r
 | .ret,s=>aresults P s rs=some r
 | _,_=>False
theorem FnP_intro {f:FuncId} {fn:Func} {c:Code} {args:List AV} {r:AV} (hf:P.funcs[f]?=some fn) (hb:fn.body=some c) (hn:args.length<=fn.ntmps)
 (h:∀ C:Ctx,C.nt=fn.ntmps->C.g0=γ0->T P C c (sinit args) (Qfn P fn.results.toList r)):FnP P f args r:=by
 intro M w vs hM hvs
 let C:Ctx:={ w0:=w,M0:=M,own:=fun _=>False,nt:=fn.ntmps,g0:=γ0 }
 have hlen:=hvs.length
 have hst:St C (sinit args) { tmps:=vs.toArray++Array.replicate (fn.ntmps - vs.toArray.size) undef,defers:=[] } w:=by
  refine ⟨γ0,M,?_,?_,fun _ _=>rfl,?_,?_,hM,MLe.refl M,fun _ _ _=>rfl,⟨rfl,rfl,rfl,Nat.le_refl _,fun _ _ _=>rfl⟩,rfl,?_,GLe.refl γ0⟩
  .intro t
   show ARel γ0 M (args.getD t .any) _
   by_cases ht:t < args.length
   .have:=hvs.get t ht
    have e:(vs.toArray++Array.replicate (fn.ntmps - vs.toArray.size) undef).getD t undef=vs.getD t undef:=by
     rw [Array.getD_eq_getD_getElem?,Array.getElem?_append_left (by simp; omega)]
     simp [List.getD_eq_getElem?_getD]
    rw [e]; exact this
   .have e:args.getD t .any=.any:=by rw [List.getD_eq_getElem?_getD,List.getElem?_eq_none (by omega)]; rfl
    rw [e]; exact .any _
  .intro id o ho; cases ho
  .intro id id' g g' b h1; exact absurd rfl h1
  .intro id g b h1; exact absurd rfl h1
  .simp [C]; omega
 refine calls_of_wp hf hb (wpIn_wide (n:=0) |>.1 <| wpIn_mono (h C rfl rfl _ w hst) fun e a' w' ⟨s',hq,γ',M',hs'⟩=>?_)
 have fin:aresults P s' fn.results.toList=some r->a'.defers=[]/\∃ v,(results fn a'.tmps).run P w'=.ok v w'/\
  ∃ u M',Ending.returned v=.returned u/\MLe M M'/\(∀ b,b < w.heap.size->M' b=M b)/\MOk M' w'/\ARel γ0 M' r u/\Below w.heap.size w w':=by
  intro hr
  obtain ⟨v,hv,hrel⟩:=aresults_sound hs' fn hr
  exact ⟨hs'.df,v,hv,v,M',rfl,hs'.le,fun b hb=>hs'.new b hb (fun h=>h),hs'.mem,hrel,⟨hs'.fr.os,hs'.fr.tape,hs'.fr.output,hs'.fr.size,fun b hb=>hs'.fr.block b hb (fun h=>h)⟩⟩
 cases e with
 | normal=>exact fin hq
 | ret=>exact fin hq
 | _=>exact hq.elim
end Go.Am
namespace Go.Am
open Go Go.RowKit
variable {P:Program} {γ γ':Nat->Option G} {M M':Mem} {C:Ctx} {s s':S} {a a':Act} {w w':World}
def look {α:Type} (t:Nat) (d:α):List (Nat×α)->α
 | []=>d
 | p::r=>match Nat.beq t p.1 with | true=>p.2 | false=>look t d r
def lookO {α:Type} (t:Nat):List (Nat×α)->Option α
 | []=>none
 | p::r=>match Nat.beq t p.1 with | true=>some p.2 | false=>lookO t r
def mkS (l:List (Nat×AV)) (o:List (Nat×AObj)):S:=
 { sl:=fun t=>look t .any l,ob:=fun i=>lookO i o,us:=fun i=>(lookO i o).isSome }
theorem look_mem {α:Type} {d:α}:∀ {l:List (Nat×α)} {t:Nat},(∃ p ∈ l,p.1=t/\look t d l=p.2)\/look t d l=d
 | [],t=>.inr rfl
 | p::r,t=>by
  unfold look
  cases h:Nat.beq t p.1 with
  | true=>exact .inl ⟨p,by simp,(Nat.eq_of_beq_eq_true h).symm,rfl⟩
  | false=>
   rcases look_mem (d:=d) (l:=r) (t:=t) with ⟨q,hq,h1,h2⟩ | h2
   .exact .inl ⟨q,by simp [hq],h1,h2⟩
   .exact .inr h2
theorem lookO_mem {α:Type}:∀ {l:List (Nat×α)} {t:Nat} {x:α},lookO t l=some x->(t,x) ∈ l
 | [],t,x,h=>by cases h
 | p::r,t,x,h=>by
  unfold lookO at h
  cases hb:Nat.beq t p.1 with
  | true=>rw [hb] at h; cases h; rw [Nat.eq_of_beq_eq_true hb]; simp
  | false=>rw [hb] at h; exact List.mem_cons_of_mem _ (lookO_mem h)
inductive CovA (ren:Nat->Option Nat):AV->AV->Prop
 | any (x:AV):CovA ren x .any
 | p (q:PV):CovA ren (.p q) (.p q)
 | pv (q q':PV) (h:∀ M v,PRel M q v->PRel M q' v):CovA ren (.p q) (.p q')
 | ref (id old off:Nat) (h:ren id=some old):CovA ren (.ref old off) (.ref id off)
 | arr (id old:Nat) (h:ren id=some old):CovA ren (.arr old) (.arr id)
 | nil (id:Nat) (h:ren id=none):CovA ren (.p .nil) (.arr id)
 | clo (fn:Fn) (fs cs fs' cs':List AV) (h1:fs.length=fs'.length) (h2:cs.length=cs'.length)
  (h3:∀ i,i < fs'.length->CovA ren (fs.getD i .any) (fs'.getD i .any)) (h4:∀ i,i < cs'.length->CovA ren (cs.getD i .any) (cs'.getD i .any)):CovA ren (.clo fn fs cs) (.clo fn fs' cs')
 | agg (cs cs':List AV) (h1:cs.length=cs'.length) (h2:∀ i,i < cs'.length->CovA ren (cs.getD i .any) (cs'.getD i .any)):CovA ren (.agg cs) (.agg cs')
 | tup (cs cs':List AV) (h1:cs.length=cs'.length) (h2:∀ i,i < cs'.length->CovA ren (cs.getD i .any) (cs'.getD i .any)):CovA ren (.tup cs) (.tup cs')
def renG (γ:Nat->Option G) (ids:List (Nat×Nat)) (ren:Nat->Option Nat):Nat->Option G:=fun id=>
 match lookO id ids with
 | none=>none
 | some k=>match ren id with
  | some old=>γ old
  | none=>some (.arr none k 0 0)
inductive Uses (ids:List (Nat×Nat)):AV->Prop
 | any:Uses ids .any
 | p (q:PV):Uses ids (.p q)
 | ref (id off:Nat) (h:(lookO id ids).isSome=true):Uses ids (.ref id off)
 | arr (id:Nat) (h:(lookO id ids).isSome=true):Uses ids (.arr id)
 | clo (fn:Fn) (fs cs:List AV) (h1:∀ i,i < fs.length->Uses ids (fs.getD i .any)) (h2:∀ i,i < cs.length->Uses ids (cs.getD i .any)):Uses ids (.clo fn fs cs)
 | agg (cs:List AV) (h1:∀ i,i < cs.length->Uses ids (cs.getD i .any)):Uses ids (.agg cs)
 | tup (cs:List AV) (h1:∀ i,i < cs.length->Uses ids (cs.getD i .any)):Uses ids (.tup cs)
theorem CovA.rel {ren:Nat->Option Nat} {ids:List (Nat×Nat)} {x x':AV} (h:CovA ren x x'):∀ {v:Value},Uses ids x'->ARel γ M x v->ARel (renG γ ids ren) M x' v:=by
 have look:∀ {id old:Nat} {g:G},ren id=some old->(lookO id ids).isSome=true->γ old=some g->renG γ ids ren id=some g:=by
  intro id old g hr hi hg
  unfold renG
  cases hl:lookO id ids with
  | none=>rw [hl] at hi; cases hi
  | some k=>simp only [hr]; exact hg
 induction h with
 | any x=>intro v _ _; exact .any v
 | p q=>intro v _ hx; exact .p _ _ hx.p_inv
 | pv q q' h=>intro v _ hx; exact .p _ _ (h _ _ hx.p_inv)
 | ref id old off h=>
  intro v hu hx
  cases hu with | ref _ _ hu=>
  obtain ⟨b,hg,rfl⟩:=hx.ref_inv
  exact .ref _ _ _ (look h hu hg)
 | arr id old h=>
  intro v hu hx
  cases hu with | arr _ hu=>
  obtain ⟨a,k,n,cap,hg,rfl⟩:=hx.arr_inv
  exact .arr _ _ _ _ _ (look h hu hg)
 | nil id h=>
  intro v hu hx
  cases hu with | arr _ hu=>
  cases hx.p_inv
  cases hl:lookO id ids with
  | none=>rw [hl] at hu; cases hu
  | some k=>
   have e:renG γ ids ren id=some (.arr none k 0 0):=by unfold renG; simp only [hl,h]
   exact .arr id none k 0 0 e
 | clo fn fs cs fs' cs' h1 h2 h3 h4 ih3 ih4=>
  intro v hu hx
  cases hu with | clo _ _ _ u1 u2=>
  cases hx with | clo _ _ _ vf vc hf hc g1 g2=>
  exact .clo _ _ _ _ _ (by omega) (by omega) (fun i hi=>ih3 i hi (u1 i hi) (g1 i (by omega))) (fun i hi=>ih4 i hi (u2 i hi) (g2 i (by omega)))
 | agg cs cs' h1 h2 ih=>
  intro v hu hx
  cases hu with | agg _ u1=>
  obtain ⟨vs,rfl,hs,hr⟩:=hx.agg_inv
  exact .agg _ _ (by omega) fun i hi=>ih i hi (u1 i hi) (hr i (by omega))
 | tup cs cs' h1 h2 ih=>
  intro v hu hx
  cases hu with | tup _ u1=>
  obtain ⟨vs,rfl,hs,hr⟩:=hx.tup_inv
  exact .tup _ _ (by omega) fun i hi=>ih i hi (u1 i hi) (hr i (by omega))
inductive CovO (ren:Nat->Option Nat):AObj->AObj->Prop
 | refl_b (e:TypeId) (mu:Bool) (l:List UInt8):CovO ren (.barr e mu l) (.barr e mu l)
 | larr (e:TypeId) (mu:Bool) (k:Nat) (R:Rows):CovO ren (.larr e mu k R) (.larr e mu k R)
 | bcv (e:TypeId) (l:List UInt8):CovO ren (.bcv e l) (.bcv e l)
 | raw (o:Obj):CovO ren (.raw o) (.raw o)
 | bldr (T:TypeId) (a a':AV) (h:CovA ren a a'):CovO ren (.bldr T a) (.bldr T a')
 | cells (cs cs':List AV) (h1:cs.length=cs'.length) (h2:∀ i,i < cs'.length->CovA ren (cs.getD i .any) (cs'.getD i .any)):CovO ren (.cells cs) (.cells cs')
def usesO (ids:List (Nat×Nat)):AObj->Prop
 | .cells cs=>∀ i,i < cs.length->Uses ids (cs.getD i .any)
 | .bldr _ a=>Uses ids a
 | _=>True
def emptyO (k:Nat):AObj->Prop
 | .barr _ _ l=>k=1/\l=[]
 | .larr _ _ k' R=>k=k'/\R.n=0
 | _=>False
theorem AllL {α:Type} {p:α->Prop}:∀ {l:List α},All (l.map p)->∀ x ∈ l,p x
 | [],_,x,hx=>by cases hx
 | y::l,h,x,hx=>by
  rcases List.mem_cons.1 hx with e | e
  .rw [e]; exact h.1
  .exact AllL h.2 x e
theorem Sub_mk {l:List (Nat×AV)} {o:List (Nat×AObj)} (ids:List (Nat×Nat)) (ren:Nat->Option Nat)
 (hids:o.map (·.1)=ids.map (·.1))
 (hl:All (l.map fun p=>CovA ren (s.sl p.1) p.2/\Uses ids p.2))
 (ho:All (o.map fun p=>usesO ids p.2/\match ren p.1 with
  | some old=>∃ ob,s.ob old=some ob/\CovO ren ob p.2
  | none=>∀ k,lookO p.1 ids=some k->emptyO k p.2))
 (hfx:∀ i g,C.g0 i=some g->ren i=some i/\(lookO i ids).isSome=true)
 (hinj:∀ i j old,ren i=some old->ren j=some old->(lookO i ids).isSome=true->(lookO j ids).isSome=true->i=j):
 Sub C s (mkS l o):=by
 rintro a w ⟨γ,M,h⟩
 have hkeys:∀ i,(lookO i o).isSome=(lookO i ids).isSome:=by
  have:∀ (o:List (Nat×AObj)) (ids:List (Nat×Nat)),o.map (·.1)=ids.map (·.1)->∀ i,(lookO i o).isSome=(lookO i ids).isSome:=by
   intro o
   induction o with
   | nil=>intro ids he i; cases ids with | nil=>rfl | cons _ _=>cases he
   | cons p o ih=>
    intro ids he i
    cases ids with
    | nil=>cases he
    | cons q ids=>
     simp only [List.map_cons,List.cons.injEq] at he
     unfold lookO
     rw [he.1]
     cases Nat.beq i q.1 with
     | true=>rfl
     | false=>exact ih ids he.2 i
  exact this o ids hids
 have hob:∀ i ob,lookO i o=some ob->usesO ids ob/\match ren i with
  | some old=>∃ ob0,s.ob old=some ob0/\CovO ren ob0 ob
  | none=>∀ k,lookO i ids=some k->emptyO k ob:=fun i ob hi=>AllL ho _ (lookO_mem hi)
 have hγ:∀ i g,renG γ ids ren i=some g->(∃ old,ren i=some old/\γ old=some g/\(lookO i ids).isSome=true)\/∃ k,g=.arr none k 0 0:=by
  intro i g hg
  unfold renG at hg
  cases hl':lookO i ids with
  | none=>rw [hl'] at hg; cases hg
  | some k=>
   rw [hl'] at hg
   cases hr:ren i with
   | none=>rw [hr] at hg; cases hg; exact .inr ⟨k,rfl⟩
   | some old=>rw [hr] at hg; exact .inl ⟨old,rfl,hg,rfl⟩
 refine ⟨renG γ ids ren,M,?_,?_,?_,?_,?_,h.mem,h.le,h.new,h.fr,h.df,h.nt,fun i g hg=>by
  obtain ⟨h1,h2⟩:=hfx i g hg
  have:=h.gl i g hg
  unfold renG
  cases hl':lookO i ids with
  | none=>rw [hl'] at h2; cases h2
  | some k=>simp only [h1]; exact this⟩
 .intro t
  show ARel _ M (look t .any l) _
  rcases look_mem (d:=AV.any) (l:=l) (t:=t) with ⟨p,hp,rfl,e⟩ | e
  .rw [e]
   obtain ⟨h1,h2⟩:=AllL hl p hp
   exact h1.rel h2 (h.sl p.1)
  .rw [e]; exact .any _
 .intro id ob hi
  have hi':lookO id o=some ob:=hi
  obtain ⟨hu,hc⟩:=hob id ob hi'
  have hsome:(lookO id ids).isSome=true:=by rw [<-hkeys,hi']; rfl
  obtain ⟨k,hk⟩:=Option.isSome_iff_exists.1 hsome
  cases hr:ren id with
  | none=>
   rw [hr] at hc
   have hem:=hc k hk
   have hg:renG γ ids ren id=some (.arr none k 0 0):=by unfold renG; simp only [hk,hr]
   cases ob with
   | cells cs=>exact hem.elim
   | bcv _ _=>exact hem.elim
   | bldr _ _=>exact hem.elim
   | raw _=>exact hem.elim
   | barr e mu l'=>
    obtain ⟨rfl,rfl⟩:=hem
    exact ⟨none,0,hg,arrOK_nil M w e mu 1⟩
   | larr e mu k' R=>
    obtain ⟨rfl,h0⟩:=hem
    exact ⟨none,0,[],by rw [h0]; exact hg,(fun i j hi _=>by omega),by rw [h0]; exact arrOK_nil M w e mu k⟩
  | some old=>
   rw [hr] at hc
   obtain ⟨ob0,ho0,hcov⟩:=hc
   have hom:=h.ob old ob0 ho0
   have hg:∀ g,γ old=some g->renG γ ids ren id=some g:=fun g hg=>by unfold renG; simp only [hk,hr]; exact hg
   cases hcov with
   | refl_b e mu l'=>
    obtain ⟨a',cap,h1,h2⟩:=hom
    exact ⟨a',cap,hg _ h1,h2⟩
   | larr e mu k' R=>
    obtain ⟨a',cap,vs,h1,h2,h3⟩:=hom
    exact ⟨a',cap,vs,hg _ h1,h2,h3⟩
   | bcv e l'=>obtain ⟨g,cur,h1,h2⟩:=hom; exact ⟨g,cur,hg _ h1,h2⟩
   | raw o'=>obtain ⟨b,h1,h2⟩:=hom; exact ⟨b,hg _ h1,h2⟩
   | bldr T x x' hx=>obtain ⟨b,v0,v1,h1,h2,h3,h4,h5,h6⟩:=hom; exact ⟨b,v0,v1,hg _ h1,h2,h3,hx.rel hu h4,h5,h6⟩
   | cells cs cs' e1 e2=>
    obtain ⟨b,vs,e,h1,h2,h3,h4,h5⟩:=hom
    exact ⟨b,vs,e,hg _ h1,h2,by omega,fun j hj=>⟨(e2 j hj).rel (hu j hj) (h4 j (by omega)).1,(h4 j (by omega)).2⟩,h5⟩
 .intro id hi
  have hi':(lookO id o).isSome=false:=hi
  rw [hkeys] at hi'
  unfold renG
  cases hl':lookO id ids with
  | none=>rfl
  | some k=>rw [hl'] at hi'; cases hi'
 .intro i j g g' b _ _ hg hg' hb hb'
  rcases hγ i g hg with ⟨old,hr,hgo,hs1⟩ | ⟨k,rfl⟩
  .rcases hγ j g' hg' with ⟨old',hr',hgo',hs2⟩ | ⟨k,rfl⟩
   . -- both are old objects that stand
    have h1:s.ob old≠none:=by
     obtain ⟨ob,hob1⟩:=Option.isSome_iff_exists.1 ((hkeys i).trans hs1)
     obtain ⟨_,hc⟩:=hob i ob hob1
     rw [hr] at hc
     obtain ⟨ob0,ho0,_⟩:=hc
     rw [ho0]; simp
    have h2:s.ob old'≠none:=by
     obtain ⟨ob,hob1⟩:=Option.isSome_iff_exists.1 ((hkeys j).trans hs2)
     obtain ⟨_,hc⟩:=hob j ob hob1
     rw [hr'] at hc
     obtain ⟨ob0,ho0,_⟩:=hc
     rw [ho0]; simp
    have e:=h.sep old old' g g' b h1 h2 hgo hgo' hb hb'
    subst e
    exact hinj i j old hr hr' hs1 hs2
   .cases hb'
  .cases hb
 .intro i g b hoi hg hb
  rcases hγ i g hg with ⟨old,hr,hgo,hs1⟩ | ⟨k,rfl⟩
  .have h1:s.ob old≠none:=by
    obtain ⟨ob,hob1⟩:=Option.isSome_iff_exists.1 ((hkeys i).trans hs1)
    obtain ⟨_,hc⟩:=hob i ob hob1
    rw [hr] at hc
    obtain ⟨ob0,ho0,_⟩:=hc
    rw [ho0]; simp
   exact h.lo old g b h1 hgo hb
  .cases hb
end Go.Am
namespace Go.Am
open Go Go.RowKit
variable {P:Program} {γ γ':Nat->Option G} {M M':Mem} {C:Ctx} {s s':S} {a a':Act} {w w':World}
abbrev Rn:=List (Nat×Option Nat)
def renF (rn:Rn):Nat->Option Nat:=fun id=>match lookO id rn with | some (some old)=>some old | _=>none
def uses1 (rn:Rn):AV->Bool
 | .any=>true
 | .p _=>true
 | .ref id _=>(renF rn id).isSome
 | .arr id=>(lookO id rn).isSome
 | _=>false
def usesB (rn:Rn):AV->Bool
 | .clo _ fs cs=>fs.all (uses1 rn)&&cs.all (uses1 rn)
 | .agg cs=>cs.all (uses1 rn)
 | .tup cs=>cs.all (uses1 rn)
 | x=>uses1 rn x
def ren1 (rn:Rn):AV->AV
 | .ref id off=>match renF rn id with | some old=>.ref old off | none=>.any
 | .arr id=>match renF rn id with | some old=>.arr old | none=>.p .nil
 | x=>x
def renA (rn:Rn):AV->AV
 | .clo fn fs cs=>.clo fn (fs.map (ren1 rn)) (cs.map (ren1 rn))
 | .agg cs=>.agg (cs.map (ren1 rn))
 | .tup cs=>.tup (cs.map (ren1 rn))
 | x=>ren1 rn x
def renO (rn:Rn):AObj->AObj
 | .cells cs=>.cells (cs.map (renA rn))
 | .bldr T a=>.bldr T (renA rn a)
 | o=>o
def usesOB (rn:Rn):AObj->Bool
 | .cells cs=>cs.all (usesB rn)
 | .bldr _ a=>usesB rn a
 | _=>true
def kOf:AObj->Nat
 | .barr _ _ _=>1
 | .larr _ _ k _=>k
 | _=>0
def idsOf (o:List (Nat×AObj)):List (Nat×Nat):=o.map fun p=>(p.1,kOf p.2)
theorem lookO_keys {α β:Type}:∀ {o:List (Nat×α)} {r:List (Nat×β)},o.map (·.1)=r.map (·.1)->∀ i,(lookO i o).isSome=(lookO i r).isSome:=by
 intro o
 induction o with
 | nil=>intro r he i; cases r with | nil=>rfl | cons _ _=>cases he
 | cons p o ih=>
  intro r he i
  cases r with
  | nil=>cases he
  | cons q r=>
   simp only [List.map_cons,List.cons.injEq] at he
   unfold lookO
   rw [he.1]
   cases Nat.beq i q.1 with
   | true=>rfl
   | false=>exact ih he.2 i
theorem renF_some {rn:Rn} {id:Nat} (h:(renF rn id).isSome=true):(lookO id rn).isSome=true:=by
 unfold renF at h
 cases hl:lookO id rn with
 | none=>rw [hl] at h; cases h
 | some _=>rfl
section
variable {rn:Rn} {ids:List (Nat×Nat)} (hk:∀ i,(lookO i ids).isSome=(lookO i rn).isSome)
include hk
theorem cov1 {x:AV} (h:uses1 rn x=true):CovA (renF rn) (ren1 rn x) x/\Uses ids x:=by
 cases x with
 | any=>exact ⟨.any _,.any⟩
 | p q=>exact ⟨.p q,.p q⟩
 | ref id off=>
  have h':(renF rn id).isSome=true:=h
  obtain ⟨old,ho⟩:=Option.isSome_iff_exists.1 h'
  refine ⟨?_,.ref _ _ (by rw [hk]; exact renF_some h')⟩
  simp only [ren1,ho]
  exact .ref id old off ho
 | arr id=>
  refine ⟨?_,.arr _ (by rw [hk]; exact h)⟩
  cases ho:renF rn id with
  | none=>simp only [ren1,ho]; exact .nil id ho
  | some old=>simp only [ren1,ho]; exact .arr id old ho
 | _=>cases h
end
theorem all_get {α:Type} {f:α->Bool} {l:List α} (h:l.all f=true) {i:Nat} (hi:i < l.length) (d:α):f (l.getD i d)=true:=by
 rw [List.getD_eq_getElem?_getD,List.getElem?_eq_getElem hi]
 exact (List.all_eq_true.1 h) _ (List.getElem_mem hi)
theorem map_getD (f:AV->AV) (hf:f .any=.any) (l:List AV) (i:Nat):(l.map f).getD i .any=f (l.getD i .any):=by
 rw [List.getD_eq_getElem?_getD,List.getD_eq_getElem?_getD,List.getElem?_map]
 cases l[i]? with
 | none=>exact hf.symm
 | some x=>rfl
theorem covB {rn:Rn} {ids:List (Nat×Nat)} (hk:∀ i,(lookO i ids).isSome=(lookO i rn).isSome) {x:AV} (h:usesB rn x=true):CovA (renF rn) (renA rn x) x/\Uses ids x:=by
 have lists:∀ cs:List AV,cs.all (uses1 rn)=true->(∀ i,i < cs.length->CovA (renF rn) ((cs.map (ren1 rn)).getD i .any) (cs.getD i .any))/\∀ i,i < cs.length->Uses ids (cs.getD i .any):=by
  intro cs hc
  refine ⟨fun i hi=>?_,fun i hi=>(cov1 hk (all_get hc hi .any)).2⟩
  rw [map_getD (ren1 rn) rfl]
  exact (cov1 hk (all_get hc hi .any)).1
 cases x with
 | clo fn fs cs=>
  simp only [usesB,Bool.and_eq_true] at h
  obtain ⟨h1,h2⟩:=lists fs h.1
  obtain ⟨h3,h4⟩:=lists cs h.2
  exact ⟨.clo _ _ _ _ _ (by simp) (by simp) h1 h3,.clo _ _ _ h2 h4⟩
 | agg cs=>
  obtain ⟨h1,h2⟩:=lists cs h
  exact ⟨.agg _ _ (by simp) h1,.agg _ h2⟩
 | tup cs=>
  obtain ⟨h1,h2⟩:=lists cs h
  exact ⟨.tup _ _ (by simp) h1,.tup _ h2⟩
 | any=>exact cov1 hk (x:=.any) h
 | p q=>exact cov1 hk (x:=.p q) h
 | ref id off=>exact cov1 hk (x:=.ref id off) h
 | arr id=>exact cov1 hk (x:=.arr id) h
 | aptr _ _ _=>cases h
 | gd _ _=>cases h
def nodupB:List Nat->Bool
 | []=>true
 | x::r=>!(r.any (Nat.beq x))&&nodupB r
def olds:Rn->List Nat
 | []=>[]
 | p::r=>match p.2 with | some old=>old::olds r | none=>olds r
theorem lookO_of_mem {α:Type}:∀ {rn:List (Nat×α)},nodupB (rn.map (·.1))=true->∀ {i:Nat} {old:α},(i,old) ∈ rn->lookO i rn=some old:=by
 intro rn
 induction rn with
 | nil=>intro _ i old h; cases h
 | cons p r ih=>
  intro h i old hi
  simp only [List.map_cons,nodupB,Bool.and_eq_true,Bool.not_eq_true'] at h
  unfold lookO
  rcases List.mem_cons.1 hi with e | e
  .rw [<-e]; simp
  .cases hb:Nat.beq i p.1 with
   | true=>
    have hm:(r.map (·.1)).any (Nat.beq p.1)=true:=List.any_eq_true.2 ⟨i,List.mem_map.2 ⟨_,e,rfl⟩,by rw [Nat.eq_of_beq_eq_true hb]; simp⟩
    rw [hm] at h; cases h.1
   | false=>exact ih h.2 e
theorem olds_mem:∀ {rn:Rn} {i old:Nat},(i,some old) ∈ rn->old ∈ olds rn:=by
 intro rn
 induction rn with
 | nil=>intro i old h; cases h
 | cons p r ih=>
  intro i old h
  obtain ⟨pi,po⟩:=p
  rcases List.mem_cons.1 h with e | e
  .cases e; simp [olds]
  .cases po with
   | none=>exact ih e
   | some q=>simp only [olds]; exact List.mem_cons_of_mem _ (ih e)
theorem nodup_inj:∀ {rn:Rn},nodupB (olds rn)=true->∀ i j old,renF rn i=some old->renF rn j=some old->i=j:=by
 have memF:∀ {rn:Rn} {i old:Nat},renF rn i=some old->(i,some old) ∈ rn:=by
  intro rn i old h
  unfold renF at h
  split at h
  .rename_i q hq; cases h; exact lookO_mem hq
  .cases h
 intro rn h i j old hi hj
 have h1:=memF hi
 have h2:=memF hj
 clear hi hj
 induction rn with
 | nil=>cases h1
 | cons p r ih=>
  obtain ⟨pi,po⟩:=p
  cases po with
  | none=>
   rcases List.mem_cons.1 h1 with e | e
   .cases e
   .rcases List.mem_cons.1 h2 with e2 | e2
    .cases e2
    .exact ih h e e2
  | some q=>
   simp only [olds,nodupB,Bool.and_eq_true,Bool.not_eq_true'] at h
   have hno:∀ k,(k,some q) ∉ r:=fun k hk=>by
    have:(olds r).any (Nat.beq q)=true:=List.any_eq_true.2 ⟨q,olds_mem hk,by simp⟩
    rw [this] at h; cases h.1
   rcases List.mem_cons.1 h1 with e | e
   .cases e
    rcases List.mem_cons.1 h2 with e2 | e2
    .cases e2; rfl
    .exact absurd e2 (hno j)
   .rcases List.mem_cons.1 h2 with e2 | e2
    .cases e2; exact absurd e (hno i)
    .exact ih h.2 e e2
def obAt (s:S):Option Nat->Option AObj
 | some old=>s.ob old
 | none=>none
def emptyB:AObj->Bool
 | .barr _ _ []=>true
 | .larr _ _ _ (.fn 0 _)=>true
 | .larr _ _ _ (.dat _ [])=>true
 | _=>false
theorem emptyB_spec {o:AObj} (h:emptyB o=true):emptyO (kOf o) o:=by
 unfold emptyB at h
 split at h
 .exact ⟨rfl,rfl⟩
 .exact ⟨rfl,rfl⟩
 .exact ⟨rfl,rfl⟩
 .cases h
def view (rn:Rn) (l:List (Nat×AV)) (s:S):List AV×List (Option AObj):=
 (l.map fun p=>s.sl p.1,rn.map fun p=>obAt s p.2)
def wantO (rn:Rn):Option Nat->AObj->Option AObj
 | some _,o=>some (renO rn o)
 | none,_=>none
def wantsO (rn:Rn):Rn->List (Nat×AObj)->List (Option AObj)
 | p::r,q::o=>wantO rn p.2 q.2::wantsO rn r o
 | _,_=>[]
def wants (rn:Rn) (l:List (Nat×AV)) (o:List (Nat×AObj)):List AV×List (Option AObj):=
 (l.map fun p=>renA rn p.2,wantsO rn rn o)
def emptiesB:Rn->List (Nat×AObj)->Bool
 | p::r,q::o=>(match p.2 with | some _=>true | none=>emptyB q.2)&&emptiesB r o
 | _,_=>true
def fixB (fx:List Nat) (rn:Rn):Bool:=fx.all fun i=>match renF rn i with | some j=>Nat.beq i j | none=>false
structure CtxOk (C:Ctx) (nt:Nat) (fx:List Nat):Prop where
 nt:C.nt=nt
 fx:∀ i g,C.g0 i=some g->i ∈ fx
def okB (fx:List Nat) (rn:Rn) (l:List (Nat×AV)) (o:List (Nat×AObj)):Bool:=
 fixB fx rn&&(  l.all (fun p=>usesB rn p.2)&&o.all (fun p=>usesOB rn p.2)&&nodupB (olds rn)&&nodupB (rn.map (·.1))&&emptiesB rn o)
theorem Sub_view {nt:Nat} {fx:List Nat} (hC:CtxOk C nt fx) (rn:Rn) {l:List (Nat×AV)} {o:List (Nat×AObj)} (hk:o.map (·.1)=rn.map (·.1)) (h:view rn l s=wants rn l o) (hok:okB fx rn l o=true):Sub C s (mkS l o):=by
 unfold okB at hok
 simp only [Bool.and_eq_true] at hok
 obtain ⟨hfix,⟨⟨⟨h1,h2⟩,h3⟩,h4⟩,h5⟩:=hok
 have hl:l.map (fun p=>s.sl p.1)=l.map fun p=>renA rn p.2:=congrArg (·.1) h
 have ho:rn.map (fun p=>obAt s p.2)=wantsO rn rn o:=congrArg (·.2) h
 have hids:o.map (·.1)=(idsOf o).map (·.1):=by simp [idsOf]
 have hkk:∀ i,(lookO i (idsOf o)).isSome=(lookO i rn).isSome:=fun i=>by rw [<-lookO_keys hids i]; exact lookO_keys hk i
 refine Sub_mk (idsOf o) (renF rn) hids ?_ ?_ (fun i g hg=>?_) ?_
 .clear h ho hk h2 h3 h4 h5 hids
  generalize idsOf o=ids at hkk
  induction l with
  | nil=>exact trivial
  | cons p l ih=>
   simp only [List.map_cons,List.cons.injEq] at hl
   simp only [List.all_cons,Bool.and_eq_true] at h1
   refine ⟨?_,ih h1.2 hl.2⟩
   obtain ⟨c1,c2⟩:=covB hkk h1.1
   rw [hl.1]; exact ⟨c1,c2⟩
 .have h4':nodupB ((idsOf o).map (·.1))=true:=by rw [<-hids,hk]; exact h4
  have key:∀ (o':List (Nat×AObj)) (rn':Rn),o'.map (·.1)=rn'.map (·.1)->rn'.map (fun p=>obAt s p.2)=wantsO rn rn' o'->o'.all (fun p=>usesOB rn p.2)=true->emptiesB rn' o'=true->
   (∀ x ∈ rn',x ∈ rn)->(∀ x ∈ o',x ∈ o)->
   All (o'.map fun p=>usesO (idsOf o) p.2/\match renF rn p.1 with
    | some old=>∃ ob,s.ob old=some ob/\CovO (renF rn) ob p.2
    | none=>∀ k,lookO p.1 (idsOf o)=some k->emptyO k p.2):=by
   intro o'
   induction o' with
   | nil=>intro rn' _ _ _ _ _ _; exact trivial
   | cons p o' ih=>
    intro rn' hk ho h2 h5 hin hio
    cases rn' with
    | nil=>cases hk
    | cons q rn'=>
     simp only [List.map_cons,List.cons.injEq,wantsO] at hk ho
     simp only [List.all_cons,Bool.and_eq_true] at h2
     simp only [emptiesB,Bool.and_eq_true] at h5
     refine ⟨?_,ih rn' hk.2 ho.2 h2.2 h5.2 (fun x hx=>hin x (by simp [hx])) (fun x hx=>hio x (by simp [hx]))⟩
     obtain ⟨qi,qo⟩:=q
     obtain ⟨pi,po⟩:=p
     have hpi:pi=qi:=hk.1
     subst hpi
     have hq:lookO pi rn=some qo:=lookO_of_mem h4 (hin (pi,qo) (by simp))
     have hu:=h2.1
     dsimp only at hu ho h5 ⊢
     cases qo with
     | none=>
      have hr:renF rn pi=none:=by unfold renF; rw [hq]
      rw [hr]
      refine ⟨by cases po with | cells cs=>cases h5.1 | bldr _ _=>cases h5.1 | _=>exact trivial,fun k hk'=>?_⟩
      have:lookO pi (idsOf o)=some (kOf po):=lookO_of_mem h4' (List.mem_map.2 ⟨(pi,po),hio _ (by simp),rfl⟩)
      rw [this] at hk'; cases hk'
      exact emptyB_spec h5.1
     | some old=>
      have hr:renF rn pi=some old:=by unfold renF; rw [hq]
      rw [hr]
      have ho1:s.ob old=some (renO rn po):=ho.1
      cases po with
      | barr e mu l'=>exact ⟨trivial,_,ho1,.refl_b _ _ _⟩
      | larr e mu k R=>exact ⟨trivial,_,ho1,.larr _ _ _ _⟩
      | bcv e l'=>exact ⟨trivial,_,ho1,.bcv _ _⟩
      | raw o'=>exact ⟨trivial,_,ho1,.raw _⟩
      | bldr T x=>have hu:usesB rn x=true:=hu; exact ⟨(covB hkk hu).2,_,ho1,.bldr _ _ _ (covB hkk hu).1⟩
      | cells cs=>
       have hu:cs.all (usesB rn)=true:=hu
       refine ⟨fun i hi=>(covB hkk (all_get hu hi .any)).2,_,ho1,.cells _ _ (by simp) fun i hi=>?_⟩
       rw [map_getD (renA rn) rfl]
       exact (covB hkk (all_get hu hi .any)).1
  exact key o rn hk ho h2 h5 (fun x hx=>hx) (fun x hx=>hx)
 .have h1:=(List.all_eq_true.1 hfix) i (hC.fx i g hg)
  cases hr:renF rn i with
  | none=>rw [hr] at h1; cases h1
  | some j=>
   rw [hr] at h1
   have:i=j:=Nat.eq_of_beq_eq_true h1
   subst this
   exact ⟨rfl,by rw [hkk]; exact renF_some (by rw [hr]; rfl)⟩
 .intro i j old hi hj _ _
  exact nodup_inj h3 i j old hi hj
def region?:Code->Option (Nat×Array Oper×Bool)
 | .region id ops d=>some (id,ops,d)
 | _=>none
theorem region?_spec {c:Code} {r:Nat×Array Oper×Bool} (h:region? c=some r):c=.region r.1 r.2.1 r.2.2:=by
 cases c with
 | region id ops d=>cases h; rfl
 | _=>cases h
def arun (P:Program) (env:Env) (nt:Nat) (c:Code) (s:S) (rn:Rn) (l:List (Nat×AV)):Option (Bool×List AV×List (Option AObj)×List Prop):=
 match region? c with
 | some (_,ops,d)=>match aops P env nt ops (List.range ops.size) s with
  | some (s',ps)=>some (d,(view rn l s').1,(view rn l s').2,ps)
  | none=>none
 | none=>none
theorem T_reg {env:Env} (henv:EnvOk P env) {nt:Nat} {fx:List Nat} (hC:CtxOk C nt fx) {c:Code} {Q:Exit->S->Prop} (rn:Rn) (l:List (Nat×AV)) (o:List (Nat×AObj)) (ps:List Prop)
 (h:arun P env nt c s rn l=some (false,(wants rn l o).1,(wants rn l o).2,ps)) (hk:(o.map (·.1),okB fx rn l o)=(rn.map (·.1),true)) (hp:All ps) (hq:∀ s',Sub C s' (mkS l o)->Q .normal s'):
 T P C c s Q:=by
 have hnt:=hC.nt
 subst hnt
 unfold arun at h
 cases hr:region? c with
 | none=>rw [hr] at h; cases h
 | some r=>
  obtain ⟨id,ops,d⟩:=r
  rw [hr] at h
  dsimp only at h
  cases ha:aops P env C.nt ops (List.range ops.size) s with
  | none=>rw [ha] at h; cases h
  | some q=>
   obtain ⟨s',ps'⟩:=q
   rw [ha] at h
   simp only [Option.some.injEq,Prod.mk.injEq] at h
   obtain ⟨rfl,h1,h2,rfl⟩:=h
   have hc:=region?_spec hr
   rw [hc]
   have hv:view rn l s'=wants rn l o:=Prod.ext h1 h2
   simp only [Prod.mk.injEq] at hk
   exact T_region henv ha hp (hq s' (Sub_view hC rn hk.1 hv hk.2))
def isSeq:Code->Bool | .seq _ _=>true | _=>false
def isCond:Code->Bool | .cond _ _ _=>true | _=>false
def blockId:Code->Option Nat | .block id _=>some id | _=>none
def isLoop:Code->Bool | .loop _=>true | _=>false
def isSkip:Code->Bool | .skip=>true | _=>false
def isRet:Code->Bool | .ret=>true | _=>false
def exitId:Code->Option Nat | .exit id=>some id | _=>none
theorem at_append:∀ (p q:List Nat) (c:Code),at_ (at_ c p) q=at_ c (p++q)
 | [],q,c=>by cases c <;> rfl
 | i::p,q,c=>by
  cases c <;> first
   | (simp only [List.cons_append,at_]; split <;> exact at_append p q _)
   | (simp only [List.cons_append,at_]; exact at_append p q _)
   | (simp only [List.cons_append,at_]; cases q <;> rfl)
theorem at_nil (c:Code):at_ c []=c:=by cases c <;> rfl
theorem at_seq0 (x y:Code):at_ (.seq x y) [0]=x:=at_nil x
theorem at_seq1 (x y:Code):at_ (.seq x y) [1]=y:=at_nil y
theorem at_cond0 (c:Operand) (x y:Code):at_ (.cond c x y) [0]=x:=at_nil x
theorem at_cond1 (c:Operand) (x y:Code):at_ (.cond c x y) [1]=y:=at_nil y
theorem at_block0 (i:Nat) (x:Code):at_ (.block i x) [0]=x:=at_nil x
theorem at_loop0 (x:Code):at_ (.loop x) [0]=x:=at_nil x
theorem T_seqp {c:Code} {p:List Nat} {Q:Exit->S->Prop} (e:isSeq (at_ c p)=true)
 (h:T P C (at_ c (p++[0])) s (Then (fun s'=>T P C (at_ c (p++[1])) s' Q) Q)):T P C (at_ c p) s Q:=by
 rw [<-at_append,<-at_append] at h
 cases hc:at_ c p with
 | seq x y=>rw [hc,at_seq0,at_seq1] at h; exact T_seq h
 | _=>rw [hc] at e; cases e
theorem T_condp {c:Code} {p:List Nat} {Q:Exit->S->Prop} (e:isCond (at_ c p)=true) (b:Bool) (hc:aev s.sl (condOf (at_ c p))=.p (.bool b))
 (h1:b=true->T P C (at_ c (p++[0])) s Q) (h2:b=false->T P C (at_ c (p++[1])) s Q):T P C (at_ c p) s Q:=by
 rw [<-at_append] at h1 h2
 cases hc':at_ c p with
 | cond x y z=>rw [hc'] at h1 h2 hc; rw [at_cond0] at h1; rw [at_cond1] at h2; exact T_cond hc h1 h2
 | _=>rw [hc'] at e; cases e
theorem T_blockp {c:Code} {p:List Nat} {Q:Exit->S->Prop} (id:Nat) (e:blockId (at_ c p)=some id) (h:T P C (at_ c (p++[0])) s (InBlock id Q)):T P C (at_ c p) s Q:=by
 rw [<-at_append] at h
 cases hc:at_ c p with
 | block i x=>rw [hc] at e h; cases e; rw [at_block0] at h; exact T_block h
 | _=>rw [hc] at e; cases e
theorem T_loopp {c:Code} {p:List Nat} {Q:Exit->S->Prop} (e:isLoop (at_ c p)=true) (R:Nat->S->Prop)
 (round:∀ n s,R n s->T P C (at_ c (p++[0])) s (Then (fun s'=>∃ m s2,m < n/\R m s2/\Sub C s' s2) Q)) (n:Nat) (h:R n s):T P C (at_ c p) s Q:=by
 rw [<-at_append] at round
 cases hc:at_ c p with
 | loop x=>rw [hc,at_loop0] at round; exact T_loop R round n h
 | _=>rw [hc] at e; cases e
theorem T_skipp {c:Code} {p:List Nat} {Q:Exit->S->Prop} (e:isSkip (at_ c p)=true) (h:Q .normal s):T P C (at_ c p) s Q:=by
 cases hc:at_ c p with
 | skip=>exact T_skip h
 | _=>rw [hc] at e; cases e
theorem T_retp {c:Code} {p:List Nat} {Q:Exit->S->Prop} (e:isRet (at_ c p)=true) (h:Q .ret s):T P C (at_ c p) s Q:=by
 cases hc:at_ c p with
 | ret=>exact T_ret h
 | _=>rw [hc] at e; cases e
theorem T_exitp {c:Code} {p:List Nat} {Q:Exit->S->Prop} (id:Nat) (e:exitId (at_ c p)=some id) (h:Q (.exit id) s):T P C (at_ c p) s Q:=by
 cases hc:at_ c p with
 | exit i=>rw [hc] at e; cases e; exact T_exit h
 | _=>rw [hc] at e; cases e
theorem Sub.refl (s:S):Sub C s s:=fun _ _ h=>h
theorem Sub.trans {x y z:S} (h:Sub C x y) (k:Sub C y z):Sub C x z:=fun a w hs=>k a w (h a w hs)
theorem T_join {c:Code} {p:List Nat} {Q:Exit->S->Prop} (e:isSeq (at_ c p)=true) (I:S->Prop)
 (h1:T P C (at_ c (p++[0])) s (Then I Q)) (h2:∀ s',I s'->T P C (at_ c (p++[1])) s' Q):T P C (at_ c p) s Q:=
 T_seqp e (h1.conseq fun e s' hq=>by cases e <;> first | exact h2 s' hq | exact hq)
theorem inblock_hit {id:Nat} {Q:Exit->S->Prop} (h:Q .normal s):InBlock id Q (.exit id) s:=by simp only [InBlock,if_true]; exact h
theorem inblock_miss {id id':Nat} {Q:Exit->S->Prop} (hne:id'≠id) (h:Q (.exit id') s):InBlock id Q (.exit id') s:=by simp only [InBlock,hne,if_false]; exact h
theorem then_exit {id:Nat} {K:S->Prop} {Q:Exit->S->Prop} (h:Q (.exit id) s):Then K Q (.exit id) s:=h
theorem then_ret {K:S->Prop} {Q:Exit->S->Prop} (h:Q .ret s):Then K Q .ret s:=h
theorem inblock_ret {id:Nat} {Q:Exit->S->Prop} (h:Q .ret s):InBlock id Q .ret s:=h
def Qend (P:Program) (C:Ctx) (rs:List ResultVar) (r:AV):Exit->S->Prop
 | .normal,s=>∃ s2,Sub C s s2/\aresults P s2 rs=some r
 | .ret,s=>∃ s2,Sub C s s2/\aresults P s2 rs=some r
 | _,_=>False
def bodyOf (fn:Func):Code:=fn.body.getD .skip
theorem FnP_lift {f:FuncId} {fn:Func} {args:List AV} {r:AV} (hf:P.funcs[f]?=some fn) (hb:(fn.body.isSome,Nat.ble args.length fn.ntmps)=(true,true))
 (h:∀ (M:Mem) (vs:List Value),ARels γ0 M args vs->∀ C:Ctx,CtxOk C fn.ntmps []->T P C (at_ (bodyOf fn) []) (sinit args) (Qend P C fn.results.toList r)):FnP P f args r:=by
 intro M w vs hM hvs
 simp only [Prod.mk.injEq] at hb
 obtain ⟨c,hc⟩:=Option.isSome_iff_exists.1 hb.1
 have hcb:bodyOf fn=c:=by unfold bodyOf; rw [hc]; rfl
 refine FnP_intro hf hc (Nat.le_of_ble_eq_true hb.2) (fun C hC hg=>?_) M w vs hM hvs
 have:=h M vs hvs C ⟨hC,fun i g hi=>by rw [hg] at hi; cases hi⟩
 rw [at_nil,hcb] at this
 intro a w hs
 refine wpIn_mono (this a w hs) fun e a' w' ⟨s',hq,hs'⟩=>?_
 cases e with
 | normal=>obtain ⟨s2,hsub,hr⟩:=hq; exact ⟨s2,hr,hsub a' w' hs'⟩
 | ret=>obtain ⟨s2,hsub,hr⟩:=hq; exact ⟨s2,hr,hsub a' w' hs'⟩
 | _=>exact hq.elim
def mkEnv (l:List (Nat×(List AV->Option (AV×Option Prop)))):Env:=fun f zs=>
 match lookO f l with
 | some g=>g zs
 | none=>none
def SpecOk (P:Program) (f:FuncId) (g:List AV->Option (AV×Option Prop)):Prop:=∀ zs r ok,g zs=some (r,ok)->okP ok->callable P f=true/\FnP P f zs r
def SpecAny (P:Program) (f:FuncId) (g:List AV->Option (AV×Option Prop)):Prop:=∀ zs r ok,g zs=some (r,ok)->okP ok->CallP P f zs r
theorem SpecOk.any {f:FuncId} {g:List AV->Option (AV×Option Prop)} (h:SpecOk P f g):SpecAny P f g:=fun zs r ok he hok=>.inl (h zs r ok he hok)
def SpecExt (P:Program) (f:FuncId) (g:List AV->Option (AV×Option Prop)):Prop:=∀ zs r ok,g zs=some (r,ok)->okP ok->ExtP P f zs r
theorem SpecExt.any {f:FuncId} {g:List AV->Option (AV×Option Prop)} (h:SpecExt P f g):SpecAny P f g:=fun zs r ok he hok=>.inr (h zs r ok he hok)
theorem EnvOk_mk {l:List (Nat×(List AV->Option (AV×Option Prop)))} (h:All (l.map fun p=>SpecAny P p.1 p.2)):EnvOk P (mkEnv l):=by
 intro f zs r ok he hok
 unfold mkEnv at he
 cases hl:lookO f l with
 | none=>rw [hl] at he; cases he
 | some g=>rw [hl] at he; exact AllL h _ (lookO_mem hl) zs r ok he hok
theorem sinit_sub {nt:Nat} (hC:CtxOk C nt []) {args:List AV} {l:List (Nat×AV)} (h:view [] l (sinit args)=wants [] l []) (hok:okB [] [] l []=true):Sub C (sinit args) (mkS l []):=
 Sub_view hC [] rfl h hok
theorem ite_get {p:Prop} [Decidable p] {α:Type} {x:Option α} {r:α} (h:(if p then x else none)=some r):p/\x=some r:=by
 by_cases hp:p
 .rw [if_pos hp] at h; exact ⟨hp,h⟩
 .rw [if_neg hp] at h; cases h
theorem ite_t {b:Bool} {α:Type} {x y:α} {r:α} (h:(if b=true then x else y)=r) (hb:b=true):x=r:=by rw [if_pos hb] at h; exact h
theorem ite_f {b:Bool} {α:Type} {x y:α} {r:α} (h:(if b=true then x else y)=r) (hb:b=false):y=r:=by rw [if_neg (by simp [hb])] at h; exact h
end Go.Am
namespace Go.Am
open Go Go.RowKit
variable {P:Program} {γ γ':Nat->Option G} {M M':Mem} {C:Ctx} {s s':S} {a a':Act} {w w':World}
def birthOp:Op->Bool
 | .alloc _ | .box _ _ | .buildSlice _ _ _ | .makeSlice _ _ _=>true
 | _=>false
def effOp:Op->Bool
 | .store _ _ _=>true
 | .call ⟨.builtin .append,_,_⟩=>true
 | op=>birthOp op
def pureOp:Op->Bool
 | .move _ | .assign _ | .pick _ _ _ | .binOp _ _ _ _ _ | .unOp _ _ _ | .index _ _ _ | .slice _ _ _ _ _ | .extract _ _ | .field _ _ _ | .fieldAddr _ _ _ | .makeFunc _ _ _ | .nilCheck _ | .build _ _=>true
 | _=>false
def indepB (ops:Array Oper) (y x:Oper):Bool:=
 Oper.apart ops y x&&((!effOp y.op&&!effOp x.op)||(!effOp y.op&&birthOp x.op)||(effOp y.op&&pureOp x.op)||(pureOp y.op&&effOp x.op))
theorem upd_comm {α:Type} (f:Nat->α) {i j:Nat} (x y:α) (h:i≠j):upd (upd f i x) j y=upd (upd f j y) i x:=by
 funext t
 by_cases h1:t=i
 .subst h1; rw [upd_ne _ _ h,upd_same,upd_same]
 .by_cases h2:t=j
  .subst h2; rw [upd_same,upd_ne _ _ h1,upd_same]
  .rw [upd_ne _ _ h2,upd_ne _ _ h1,upd_ne _ _ h1,upd_ne _ _ h2]
theorem args_upd {ops:Array Oper} {o:Oper} {d:Nat} (h:d ∉ Oper.looksAt ops o) (σ:Nat->AV) (v:AV):
 o.op.operands.toList.map (aev (upd σ d v))=o.op.operands.toList.map (aev σ):=by
 refine List.map_congr_left fun x hx=>?_
 cases x with
 | tmp t=>
  have:t≠d:=by
   intro e; subst e
   exact h (List.mem_append_left _ (List.mem_filterMap.2 ⟨.tmp t,hx,rfl⟩))
  exact upd_ne _ _ this
 | _=>rfl
theorem guard_upd {ops:Array Oper} {o:Oper} {d:Nat} (h:d ∉ Oper.looksAt ops o) (σ:Nat->AV) (v:AV):guardOf ops (upd σ d v) o=guardOf ops σ o:=by
 unfold guardOf
 cases hg:o.guard with
 | none=>rfl
 | some jw=>
  obtain ⟨j,want⟩:=jw
  dsimp only
  cases ht:(ops[j]?).bind (·.dst) with
  | none=>rfl
  | some t=>
   have:t≠d:=by
    intro e; subst e
    exact h (List.mem_append_right _ (by simp [hg,ht]))
   dsimp only
   rw [upd_ne _ _ this]
structure Res where
 v:AV
 ps:List Prop
def vstep (P:Program) (env:Env) (nt:Nat) (ops:Array Oper) (o:Oper) (σ:Nat->AV) (ob:Nat->Option AObj):Option Res:=
 match guardOf ops σ o,dstOk nt o.dst with
 | some g,true=>
  match evV P env ob o.op (stripOp g o.op (o.op.operands.toList.map (aev σ))).1 with
  | some (r,ok)=>some ⟨guarded g r,(stripOp g o.op (o.op.operands.toList.map (aev σ))).2++oks g ok⟩
  | none=>none
 | _,_=>none
theorem vstep_upd {env:Env} {nt:Nat} {ops:Array Oper} {o:Oper} {d:Nat} (h:d ∉ Oper.looksAt ops o) (σ:Nat->AV) (v:AV) (ob:Nat->Option AObj):
 vstep P env nt ops o (upd σ d v) ob=vstep P env nt ops o σ ob:=by
 unfold vstep
 rw [guard_upd h,args_upd h]
theorem evV_eff {env:Env} {ob:Nat->Option AObj} {op:Op} (h:effOp op=true) (xs:List AV):evV P env ob op xs=none:=by
 cases op <;> simp only [effOp,birthOp,reduceCtorEq] at h <;> try rfl
 rename_i c
 obtain ⟨callee,args,ts⟩:=c
 cases callee with
 | value f=>simp only [reduceCtorEq] at h
 | invoke r m=>simp only [reduceCtorEq] at h
 | builtin b=>cases b <;> first | rfl | (simp only [reduceCtorEq] at h)
theorem evE_noneff {o:Oper} (h:effOp o.op=false) (s:S) (xs:List AV):evE P s o xs=none:=by
 unfold evE
 split
 .rename_i heq; rw [heq] at h; cases h
 .rename_i heq; rw [heq] at h; cases h
 .have:evB P o.op xs=none:=by
   cases hop:o.op <;> rw [hop] at h <;> simp only [effOp,birthOp,reduceCtorEq] at h <;> rfl
  rw [this]
theorem astep_val {env:Env} {nt:Nat} {ops:Array Oper} {o:Oper} (h:effOp o.op=false) (s:S):
 astep P env nt ops o s=(vstep P env nt ops o s.sl s.ob).map fun r=>(aset s o.dst r.v,r.ps):=by
 unfold astep vstep
 cases guardOf ops s.sl o with
 | none=>rfl
 | some g=>
  cases dstOk nt o.dst with
  | false=>rfl
  | true=>
   dsimp only
   cases evV P env s.ob o.op (stripOp g o.op (o.op.operands.toList.map (aev s.sl))).1 with
   | some q=>rfl
   | none=>
    dsimp only
    cases g with
    | some _=>rfl
    | none=>rw [evE_noneff h]; rfl
def estep (P:Program) (nt:Nat) (ops:Array Oper) (o:Oper) (s:S):Option (S×List Prop):=
 match guardOf ops s.sl o,dstOk nt o.dst with
 | some none,true=>(evE P s o (stripOp none o.op (o.op.operands.toList.map (aev s.sl))).1).map fun r=>(r.1,(stripOp none o.op (o.op.operands.toList.map (aev s.sl))).2++oks none r.2)
 | _,_=>none
theorem astep_eff {env:Env} {nt:Nat} {ops:Array Oper} {o:Oper} (h:effOp o.op=true) (s:S):astep P env nt ops o s=estep P nt ops o s:=by
 unfold astep estep
 cases guardOf ops s.sl o with
 | none=>rfl
 | some g=>
  cases dstOk nt o.dst with
  | false=>cases g <;> rfl
  | true=>
   dsimp only
   rw [evV_eff h]
   cases g <;> rfl
def OLe (ob ob':Nat->Option AObj):Prop:=∀ i o,ob i=some o->ob' i=some o
theorem snap1_mono {ob ob':Nat->Option AObj} (h:OLe ob ob') {x z:AV} (hs:snap1 ob x=some z):snap1 ob' x=some z:=by
 cases x with
 | arr id=>
  dsimp only [snap1] at hs ⊢
  cases ho:ob id with
  | none=>rw [ho] at hs; cases hs
  | some o=>rw [ho] at hs; rw [h id o ho]; exact hs
 | _=>exact hs
theorem allSome_mono {α β:Type} {f g:α->Option β} (h:∀ x y,f x=some y->g x=some y):∀ {l:List α} {r:List β},allSome f l=some r->allSome g l=some r:=by
 intro l
 induction l with
 | nil=>intro r hr; exact hr
 | cons x l ih=>
  intro r hr
  simp only [allSome] at hr ⊢
  cases hx:f x with
  | none=>rw [hx] at hr; cases hr
  | some y=>
   cases hl:allSome f l with
   | none=>rw [hx,hl] at hr; cases hr
   | some ys=>rw [hx,hl] at hr; rw [h x y hx,ih hl]; exact hr
theorem snap_mono {ob ob':Nat->Option AObj} (h:OLe ob ob') {x z:AV} (hs:snap ob x=some z):snap ob' x=some z:=by
 cases x with
 | agg cs=>
  obtain ⟨zs,hz,he⟩:=map_some hs
  cases he
  show (allSome (snap1 ob') cs).map AV.agg=_
  rw [allSome_mono (fun x y=>snap1_mono h) hz]; rfl
 | clo fn fs cs=>
  cases fs with
  | nil=>cases cs with
   | nil=>exact hs
   | cons _ _=>cases hs
  | cons _ _=>cases hs
 | any=>exact snap1_mono h (x:=.any) hs
 | p q=>exact snap1_mono h (x:=.p q) hs
 | ref i j=>exact snap1_mono h (x:=.ref i j) hs
 | arr i=>exact snap1_mono h (x:=.arr i) hs
 | aptr i j k=>exact snap1_mono h (x:=.aptr i j k) hs
 | tup l=>exact snap1_mono h (x:=.tup l) hs
 | gd c y=>exact snap1_mono h (x:=.gd c y) hs
theorem evL_mono {ob ob':Nat->Option AObj} (h:OLe ob ob') {op:Op} {xs:List AV} {r:AV×Option Prop} (he:evL P ob op xs=some r):evL P ob' op xs=some r:=by
 cases op <;> simp only [evL,reduceCtorEq] at he ⊢
 case load t x=>
  unfold evLoad at he ⊢
  split at he
  .rename_i id off
   cases ho:ob id with
   | none=>rw [ho] at he; cases he
   | some o=>rw [ho] at he; rw [h id o ho]; exact he
  .exact he
  .rename_i id i j
   cases ho:ob id with
   | none=>rw [ho] at he; cases he
   | some o=>rw [ho] at he; rw [h id o ho]; exact he
  .cases he
 case indexAddr t x i=>
  unfold evIndexAddrL at he ⊢
  split at he
  .rename_i id kk i'
   cases ho:ob id with
   | none=>rw [ho] at he; revert he; cases elemSize P t <;> intro he <;> cases he
   | some o=>rw [ho] at he; rw [h id o ho]; exact he
  .cases he
 case convert sT d x=>
  unfold evConvL at he ⊢
  split at he
  .rename_i id
   cases ho:ob id with
   | none=>rw [ho] at he; cases he
   | some o=>rw [ho] at he; rw [h id o ho]; exact he
  .exact he
  .exact he
  .cases he
 case call c=>
  obtain ⟨callee,args,ts⟩:=c
  cases callee with
  | value f=>cases he
  | invoke r m=>cases he
  | builtin b=>
   cases b <;> dsimp only at he ⊢ <;> first | (cases he; done) | skip
   cases hts:ts[0]? with
   | none=>rw [hts] at he; cases he
   | some t=>
    rw [hts] at he
    dsimp only at he ⊢
    unfold evLenL at he ⊢
    split at he
    .rename_i id
     cases ho:ob id with
     | none=>rw [ho] at he; cases he
     | some o=>rw [ho] at he; rw [h id o ho]; exact he
    .cases he
theorem evC_mono {env:Env} {ob ob':Nat->Option AObj} (h:OLe ob ob') {op:Op} {xs:List AV} {r:AV×Option Prop} (he:evC env ob op xs=some r):evC env ob' op xs=some r:=by
 unfold evC at he ⊢
 split at he
 .split at he
  .rename_i f fs cs ys
   cases hz:allSome (snap ob) (fs++(ys++cs)) with
   | none=>rw [hz] at he; cases he
   | some zs=>rw [hz] at he; rw [allSome_mono (fun x y=>snap_mono h) hz]; exact he
  .cases he
 .cases he
theorem evV_mono {env:Env} {ob ob':Nat->Option AObj} (h:OLe ob ob') {op:Op} {xs:List AV} {r:AV×Option Prop} (he:evV P env ob op xs=some r):evV P env ob' op xs=some r:=by
 unfold evV at he ⊢
 cases h1:evP P op xs with
 | some q=>rw [h1] at he; exact he
 | none=>
  rw [h1] at he
  dsimp only at he ⊢
  cases h2:evL P ob op xs with
  | some q=>rw [h2] at he; rw [evL_mono h h2]; exact he
  | none=>
   rw [h2] at he
   dsimp only at he
   have h3:evL P ob' op xs=none\/∃ q,evL P ob' op xs=some q:=by cases evL P ob' op xs with | none=>exact .inl rfl | some q=>exact .inr ⟨q,rfl⟩
   split at he
   .rename_i t ps
    have:evL P ob' (.build t ps) xs=none:=rfl
    rw [this]; exact he
   .rename_i hne
    have hc:∃ f args ts,op=.call ⟨.value f,args,ts⟩:=by
     unfold evC at he
     split at he
     .exact ⟨_,_,_,rfl⟩
     .cases he
    obtain ⟨f,args,ts,rfl⟩:=hc
    have:evL P ob' (.call ⟨.value f,args,ts⟩) xs=none:=rfl
    rw [this]
    exact evC_mono h he
theorem evV_pure {env:Env} {ob ob':Nat->Option AObj} {op:Op} (h:pureOp op=true) (xs:List AV):evV P env ob op xs=evV P env ob' op xs:=by
 unfold evV
 cases op <;> simp only [pureOp,reduceCtorEq] at h <;> rfl
theorem vstep_mono {env:Env} {nt:Nat} {ops:Array Oper} {o:Oper} {σ:Nat->AV} {ob ob':Nat->Option AObj} (h:OLe ob ob') {r:Res} (he:vstep P env nt ops o σ ob=some r):vstep P env nt ops o σ ob'=some r:=by
 unfold vstep at he ⊢
 split at he
 .rename_i g hg hd
  cases hv:evV P env ob o.op (stripOp g o.op (o.op.operands.toList.map (aev σ))).1 with
  | none=>rw [hv] at he; cases he
  | some q=>rw [hv] at he; rw [evV_mono h hv]; exact he
 .cases he
theorem vstep_pure {env:Env} {nt:Nat} {ops:Array Oper} {o:Oper} {σ:Nat->AV} {ob ob':Nat->Option AObj} (h:pureOp o.op=true):vstep P env nt ops o σ ob=vstep P env nt ops o σ ob':=by
 unfold vstep
 split
 .rw [evV_pure h]
 .rfl
theorem evE_sl {s:S} {o:Oper} {xs:List AV} {ok:Option Prop} (h:evE P s o xs=some (s',ok)):
 ∃ hv:AV,s'.sl=pset s.sl o.dst hv/\(∀ σ,evE P { s with sl:=σ } o xs=some ({ s' with sl:=pset σ o.dst hv },ok))/\(birthOp o.op=true->OLe s.ob s'.ob):=by
 unfold evE at h
 split at h
 .rename_i t x y hop
  split at h
  .rename_i hd
   obtain ⟨r,hr,he⟩:=map_some h
   cases he
   refine ⟨.any,by rw [hd]; rfl,fun σ=>?_,fun hb=>by rw [hop] at hb; cases hb⟩
   unfold evE
   rw [hop]
   dsimp only
   rw [hd]
   dsimp only
   rw [hr]; rfl
  .cases h
 .rename_i args ts hop
  split at h
  .rename_i t tx d x y ht htx hd
   split at h
   .rename_i hu hsz
    obtain ⟨r,hr,he⟩:=map_some h
    cases he
    refine ⟨.arr d,by rw [hd]; rfl,fun σ=>?_,fun hb=>by rw [hop] at hb; cases hb⟩
    unfold evE
    rw [hop]
    dsimp only
    rw [ht,htx,hd]
    dsimp only
    rw [hu,hsz]
    rw [hr]; rfl
   .cases h
  .cases h
 .rename_i hn1 hn2
  split at h
  .rename_i ob ok' d hB hd
   split at h
   .rename_i hu ho
    cases h
    refine ⟨ob.handle d,by rw [hd]; rfl,fun σ=>?_,fun _ i o' hi=>?_⟩
    .unfold evE
     split
     .rename_i heq; exact absurd heq (hn1 _ _ _)
     .rename_i heq; exact absurd heq (hn2 _ _)
     .rw [hB,hd]
      dsimp only
      rw [hu,ho]
      rfl
    .have:i≠d:=by intro e; subst e; rw [ho] at hi; cases hi
     show upd s.ob d _ i=_
     rw [upd_ne _ _ this]; exact hi
   .cases h
  .cases h
theorem apart_dst {ops:Array Oper} {x y:Oper} (h:x.apart ops y=true):(∀ d,x.dst=some d->d ∉ y.looksAt ops)/\(∀ d,x.dst=some d->y.dst≠some d)/\(∀ d,y.dst=some d->d ∉ x.looksAt ops):=
 Oper.apart_spec h
theorem vstep_pset {env:Env} {nt:Nat} {ops:Array Oper} {o:Oper} {dst:Option Nat} (h:∀ d,dst=some d->d ∉ Oper.looksAt ops o) (σ:Nat->AV) (v:AV) (ob:Nat->Option AObj):
 vstep P env nt ops o (pset σ dst v) ob=vstep P env nt ops o σ ob:=by
 cases dst with
 | none=>rfl
 | some d=>exact vstep_upd (h d rfl) σ v ob
theorem pset_comm {σ:Nat->AV} {d d':Option Nat} (v v':AV) (h:∀ x,d=some x->d'≠some x):pset (pset σ d v) d' v'=pset (pset σ d' v') d v:=by
 cases d with
 | none=>rfl
 | some x=>
  cases d' with
  | none=>rfl
  | some x'=>exact upd_comm σ v v' (fun e=>h x rfl (by rw [e]))
theorem guard_pset {ops:Array Oper} {o:Oper} {dst:Option Nat} (h:∀ d,dst=some d->d ∉ Oper.looksAt ops o) (σ:Nat->AV) (v:AV):guardOf ops (pset σ dst v) o=guardOf ops σ o:=by
 cases dst with
 | none=>rfl
 | some d=>exact guard_upd (h d rfl) σ v
theorem args_pset {ops:Array Oper} {o:Oper} {dst:Option Nat} (h:∀ d,dst=some d->d ∉ Oper.looksAt ops o) (σ:Nat->AV) (v:AV):
 o.op.operands.toList.map (aev (pset σ dst v))=o.op.operands.toList.map (aev σ):=by
 cases dst with
 | none=>rfl
 | some d=>exact args_upd (h d rfl) σ v
theorem estep_inv {nt:Nat} {ops:Array Oper} {o:Oper} {p:List Prop} (h:estep P nt ops o s=some (s',p)):
 ∃ hv:AV,s'.sl=pset s.sl o.dst hv/\(∀ σ,guardOf ops σ o=guardOf ops s.sl o->o.op.operands.toList.map (aev σ)=o.op.operands.toList.map (aev s.sl)->
  estep P nt ops o { s with sl:=σ }=some ({ s' with sl:=pset σ o.dst hv },p))/\(birthOp o.op=true->OLe s.ob s'.ob):=by
 unfold estep at h
 split at h
 .rename_i hg hd
  obtain ⟨⟨s2,ok⟩,hE,he⟩:=map_some h
  cases he
  obtain ⟨hv,e1,e2,e3⟩:=evE_sl hE
  refine ⟨hv,e1,fun σ h1 h2=>?_,e3⟩
  unfold estep
  rw [show guardOf ops ({ s with sl:=σ }:S).sl o=some none from h1.trans hg,hd]
  show (evE P { s with sl:=σ } o (stripOp none o.op (o.op.operands.toList.map (aev σ))).1).map (fun r=>(r.1,(stripOp none o.op (o.op.operands.toList.map (aev σ))).2++oks none r.2))=_
  rw [h2,e2 σ]
  rfl
 .cases h
theorem swap {env:Env} {nt:Nat} {ops:Array Oper} {x y:Oper} {s s1 s2:S} {p1 p2:List Prop} (hi:indepB ops y x=true)
 (h1:astep P env nt ops y s=some (s1,p1)) (h2:astep P env nt ops x s1=some (s2,p2)):
 ∃ s1',astep P env nt ops x s=some (s1',p2)/\astep P env nt ops y s1'=some (s2,p1):=by
 unfold indepB at hi
 rw [Bool.and_eq_true] at hi
 obtain ⟨hap,hk⟩:=hi
 obtain ⟨a1,a2,a3⟩:=apart_dst hap
 cases ey:effOp y.op with
 | false=>
  rw [astep_val ey] at h1
  obtain ⟨ry,hy,he⟩:=map_some h1
  cases he
  cases ex:effOp x.op with
  | false=>
   rw [astep_val ex] at h2
   obtain ⟨rx,hx,he⟩:=map_some h2
   cases he
   have hx':vstep P env nt ops x s.sl s.ob=some rx:=by
    rw [<-vstep_pset (P:=P) (env:=env) (nt:=nt) a1 s.sl ry.v s.ob]; exact hx
   refine ⟨aset s x.dst rx.v,by rw [astep_val ex,hx']; rfl,?_⟩
   rw [astep_val ey]
   have:vstep P env nt ops y (pset s.sl x.dst rx.v) s.ob=some ry:=by
    rw [vstep_pset (P:=P) a3]; exact hy
   show (vstep P env nt ops y (pset s.sl x.dst rx.v) s.ob).map _=_
   rw [this]
   simp only [Option.map_some,aset]
   rw [pset_comm rx.v ry.v (fun d hd e=>a2 d e hd)]
  | true=>
   rw [astep_eff ex] at h2
   obtain ⟨hv,e1,e2,e3⟩:=estep_inv h2
   have hs:=e2 s.sl (guard_pset a1 s.sl ry.v).symm (args_pset a1 s.sl ry.v).symm
   refine ⟨{ s2 with sl:=pset s.sl x.dst hv },by rw [astep_eff ex]; exact hs,?_⟩
   rw [astep_val ey]
   have hmem:vstep P env nt ops y s.sl s2.ob=some ry:=by
    cases hp:pureOp y.op with
    | true=>rw [vstep_pure (ob':=s.ob) hp]; exact hy
    | false=>
     have hb:birthOp x.op=true:=by
      rw [ey,ex,hp] at hk
      simpa using hk
     exact vstep_mono (e3 hb) hy
   have:vstep P env nt ops y (pset s.sl x.dst hv) s2.ob=some ry:=by
    rw [vstep_pset (P:=P) a3]; exact hmem
   show (vstep P env nt ops y (pset s.sl x.dst hv) s2.ob).map _=_
   rw [this]
   simp only [Option.map_some,aset]
   have e4:pset (pset s.sl x.dst hv) y.dst ry.v=s2.sl:=by
    rw [e1]
    show _=pset (pset s.sl y.dst ry.v) x.dst hv
    rw [pset_comm hv ry.v (fun d hd e=>a2 d e hd)]
   rw [e4]
 | true=>
  have hp:pureOp x.op=true:=by
   rw [ey] at hk
   cases hp:pureOp x.op with
   | true=>rfl
   | false=>
    have hpy:pureOp y.op=false:=by cases hop:y.op <;> rw [hop] at ey <;> first | rfl | (simp only [effOp,birthOp,reduceCtorEq] at ey)
    rw [hp,hpy] at hk
    simp at hk
  have ex:effOp x.op=false:=by cases hop:x.op <;> rw [hop] at hp <;> first | rfl | (simp only [pureOp,reduceCtorEq] at hp)
  rw [astep_eff ey] at h1
  rw [astep_val ex] at h2
  obtain ⟨rx,hx,he⟩:=map_some h2
  cases he
  obtain ⟨hv,e1,e2,_⟩:=estep_inv h1
  have hx':vstep P env nt ops x s.sl s.ob=some rx:=by
   rw [vstep_pure (ob':=s1.ob) hp,<-vstep_pset (P:=P) (env:=env) (nt:=nt) a1 s.sl hv s1.ob,<-e1]; exact hx
  refine ⟨aset s x.dst rx.v,by rw [astep_val ex,hx']; rfl,?_⟩
  rw [astep_eff ey]
  have:=e2 (pset s.sl x.dst rx.v) (guard_pset a3 s.sl rx.v) (args_pset a3 s.sl rx.v)
  refine this.trans ?_
  simp only [aset]
  rw [e1,pset_comm rx.v hv (fun d hd e=>a2 d e hd)]
end Go.Am
namespace Go.Am
open Go Go.RowKit
variable {P:Program} {γ γ':Nat->Option G} {M M':Mem} {C:Ctx} {s s':S} {a a':Act} {w w':World}
def RLe (γ:Nat->Option G) (ob ob':Nat->Option AObj):Prop:=∀ i,γ i≠none->∀ o,ob i=some o->ob' i=some o
theorem ARels.head {x:AV} {xs:List AV} {vs:List Value} (h:ARels γ M (x::xs) vs):∃ v,ARel γ M x v:=by cases h with | cons h _=>exact ⟨_,h⟩
theorem ARels.tail {x:AV} {xs:List AV} {vs:List Value} (h:ARels γ M (x::xs) vs):∃ vs',ARels γ M xs vs':=by cases h with | cons _ h=>exact ⟨_,h⟩
theorem named_ref {id off:Nat} {v:Value} (h:ARel γ M (.ref id off) v):γ id≠none:=by obtain ⟨b,hb,_⟩:=h.ref_inv; rw [hb]; simp
theorem named_arr {id:Nat} {v:Value} (h:ARel γ M (.arr id) v):γ id≠none:=by obtain ⟨_,_,_,_,hb,_⟩:=h.arr_inv; rw [hb]; simp
theorem named_aptr {id i j:Nat} {v:Value} (h:ARel γ M (.aptr id i j) v):γ id≠none:=by obtain ⟨_,_,_,_,hb,_⟩:=h.aptr_inv; rw [hb]; simp
theorem snap1_monoR {ob ob':Nat->Option AObj} (h:RLe γ ob ob') {x z:AV} {v:Value} (hx:ARel γ M x v) (hs:snap1 ob x=some z):snap1 ob' x=some z:=by
 cases x with
 | arr id=>
  dsimp only [snap1] at hs ⊢
  cases ho:ob id with
  | none=>rw [ho] at hs; cases hs
  | some o=>rw [ho] at hs; rw [h id (named_arr hx) o ho]; exact hs
 | _=>exact hs
theorem allSome_monoR {α β:Type} {f g:α->Option β} {q:α->Prop} (h:∀ x y,q x->f x=some y->g x=some y):∀ {l:List α} {r:List β},(∀ x ∈ l,q x)->allSome f l=some r->allSome g l=some r:=by
 intro l
 induction l with
 | nil=>intro r _ hr; exact hr
 | cons x l ih=>
  intro r hq hr
  simp only [allSome] at hr ⊢
  cases hx:f x with
  | none=>rw [hx] at hr; cases hr
  | some y=>
   cases hl:allSome f l with
   | none=>rw [hx,hl] at hr; cases hr
   | some ys=>rw [hx,hl] at hr; rw [h x y (hq x (by simp)) hx,ih (fun z hz=>hq z (by simp [hz])) hl]; exact hr
theorem rel_mem {xs:List AV} {vs:List Value} (h:ARels γ M xs vs):∀ x ∈ xs,∃ v,ARel γ M x v:=by
 induction h with
 | nil=>intro x hx; cases hx
 | cons h _ ih=>
  intro x hx
  rcases List.mem_cons.1 hx with e | e
  .rw [e]; exact ⟨_,h⟩
  .exact ih x e
theorem rel_getD {cs:List AV} {p:Nat->Value} (h:∀ i,i < cs.length->ARel γ M (cs.getD i .any) (p i)):∀ x ∈ cs,∃ v,ARel γ M x v:=by
 intro x hx
 obtain ⟨i,hi,rfl⟩:=List.mem_iff_getElem.1 hx
 have:=h i hi
 rw [List.getD_eq_getElem?_getD,List.getElem?_eq_getElem hi] at this
 exact ⟨_,this⟩
theorem snap_monoR {ob ob':Nat->Option AObj} (h:RLe γ ob ob') {x z:AV} {v:Value} (hx:ARel γ M x v) (hs:snap ob x=some z):snap ob' x=some z:=by
 cases x with
 | agg cs=>
  obtain ⟨zs,hz,he⟩:=map_some hs
  cases he
  obtain ⟨vs,rfl,hsz,hr⟩:=hx.agg_inv
  show (allSome (snap1 ob') cs).map AV.agg=_
  rw [allSome_monoR (q:=fun x=>∃ v,ARel γ M x v) (fun x y ⟨v,hv⟩=>snap1_monoR h hv) (rel_getD hr) hz]; rfl
 | clo fn fs cs=>
  cases fs with
  | nil=>cases cs with
   | nil=>exact hs
   | cons _ _=>cases hs
  | cons _ _=>cases hs
 | any=>exact snap1_monoR h (x:=.any) hx hs
 | p q=>exact snap1_monoR h (x:=.p q) hx hs
 | ref i j=>exact snap1_monoR h (x:=.ref i j) hx hs
 | arr i=>exact snap1_monoR h (x:=.arr i) hx hs
 | aptr i j k=>exact snap1_monoR h (x:=.aptr i j k) hx hs
 | tup l=>exact snap1_monoR h (x:=.tup l) hx hs
 | gd c y=>exact snap1_monoR h (x:=.gd c y) hx hs
theorem evL_monoR {ob ob':Nat->Option AObj} (h:RLe γ ob ob') {op:Op} {xs:List AV} {vs:List Value} (hx:ARels γ M xs vs) {r:AV×Option Prop} (he:evL P ob op xs=some r):evL P ob' op xs=some r:=by
 cases op <;> simp only [evL,reduceCtorEq] at he ⊢
 case load t x=>
  unfold evLoad at he ⊢
  split at he
  .rename_i id off
   obtain ⟨v,hv⟩:=hx.head
   cases ho:ob id with
   | none=>rw [ho] at he; cases he
   | some o=>rw [ho] at he; rw [h id (named_ref hv) o ho]; exact he
  .exact he
  .rename_i id i j
   obtain ⟨v,hv⟩:=hx.head
   cases ho:ob id with
   | none=>rw [ho] at he; cases he
   | some o=>rw [ho] at he; rw [h id (named_aptr hv) o ho]; exact he
  .cases he
 case indexAddr t x i=>
  unfold evIndexAddrL at he ⊢
  split at he
  .rename_i id kk i'
   obtain ⟨v,hv⟩:=hx.head
   cases ho:ob id with
   | none=>rw [ho] at he; revert he; cases elemSize P t <;> intro he <;> cases he
   | some o=>rw [ho] at he; rw [h id (named_arr hv) o ho]; exact he
  .cases he
 case convert sT d x=>
  unfold evConvL at he ⊢
  split at he
  .rename_i id
   obtain ⟨v,hv⟩:=hx.head
   cases ho:ob id with
   | none=>rw [ho] at he; cases he
   | some o=>rw [ho] at he; rw [h id (named_arr hv) o ho]; exact he
  .exact he
  .exact he
  .cases he
 case call c=>
  obtain ⟨callee,args,ts⟩:=c
  cases callee with
  | value f=>cases he
  | invoke r m=>cases he
  | builtin b=>
   cases b <;> dsimp only at he ⊢ <;> first | (cases he; done) | skip
   cases hts:ts[0]? with
   | none=>rw [hts] at he; cases he
   | some t=>
    rw [hts] at he
    dsimp only at he ⊢
    unfold evLenL at he ⊢
    split at he
    .rename_i id
     obtain ⟨v,hv⟩:=hx.head
     cases ho:ob id with
     | none=>rw [ho] at he; cases he
     | some o=>rw [ho] at he; rw [h id (named_arr hv) o ho]; exact he
    .cases he
theorem evC_monoR {env:Env} {ob ob':Nat->Option AObj} (h:RLe γ ob ob') {op:Op} {xs:List AV} {vs:List Value} (hx:ARels γ M xs vs) {r:AV×Option Prop} (he:evC env ob op xs=some r):evC env ob' op xs=some r:=by
 unfold evC at he ⊢
 split at he
 .split at he
  .rename_i f fs cs ys
   have hall:∀ x ∈ fs++(ys++cs),∃ v,ARel γ M x v:=by
    obtain ⟨v,hv⟩:=hx.head
    obtain ⟨vs',ht⟩:=hx.tail
    cases hv with
    | clo _ _ _ vf vc hf hc g1 g2=>
     intro x hx
     rcases List.mem_append.1 hx with h1 | h1
     .exact rel_getD g1 x h1
     .rcases List.mem_append.1 h1 with h2 | h2
      .exact rel_mem ht x h2
      .exact rel_getD g2 x h2
   cases hz:allSome (snap ob) (fs++(ys++cs)) with
   | none=>rw [hz] at he; cases he
   | some zs=>rw [hz] at he; rw [allSome_monoR (q:=fun x=>∃ v,ARel γ M x v) (fun x y ⟨v,hv⟩=>snap_monoR h hv) hall hz]; exact he
  .cases he
 .cases he
theorem evV_monoR {env:Env} {ob ob':Nat->Option AObj} (h:RLe γ ob ob') {op:Op} {xs:List AV} {vs:List Value} (hx:ARels γ M xs vs) {r:AV×Option Prop} (he:evV P env ob op xs=some r):evV P env ob' op xs=some r:=by
 unfold evV at he ⊢
 cases h1:evP P op xs with
 | some q=>rw [h1] at he; exact he
 | none=>
  rw [h1] at he
  dsimp only at he ⊢
  cases h2:evL P ob op xs with
  | some q=>rw [h2] at he; rw [evL_monoR h hx h2]; exact he
  | none=>
   rw [h2] at he
   dsimp only at he
   split at he
   .rename_i t ps
    have:evL P ob' (.build t ps) xs=none:=rfl
    rw [this]; exact he
   .rename_i hne
    have hc:∃ f args ts,op=.call ⟨.value f,args,ts⟩:=by
     unfold evC at he
     split at he
     .exact ⟨_,_,_,rfl⟩
     .cases he
    obtain ⟨f,args,ts,rfl⟩:=hc
    have:evL P ob' (.call ⟨.value f,args,ts⟩) xs=none:=rfl
    rw [this]
    exact evC_monoR h hx he
end Go.Am
namespace Go.Am
open Go Go.RowKit
variable {P:Program} {γ γ':Nat->Option G} {M M':Mem} {C:Ctx} {s s':S} {a a':Act} {w w':World}
theorem aBase_monoR {ob ob':Nat->Option AObj} {x:AV} (h:∀ i,(x=.arr i)->∀ o,ob i=some o->ob' i=some o) {e:TypeId} {r:Option Nat×Option AObj} (he:aBase ob e x=some r):aBase ob' e x=some r:=by
 unfold aBase at he ⊢
 split at he
 .exact he
 .rename_i id
  cases ho:ob id with
  | none=>rw [ho] at he; cases he
  | some o=>rw [ho] at he; rw [h id rfl o ho]; exact he
 .cases he
theorem aSrcB_monoR {ob ob':Nat->Option AObj} {x:AV} (h:∀ i,(x=.arr i)->∀ o,ob i=some o->ob' i=some o) {t:TypeId} {r:List UInt8} (he:aSrcB P ob t x=some r):aSrcB P ob' t x=some r:=by
 unfold aSrcB at he ⊢
 split at he
 .exact he
 .exact he
 .exact he
 .rename_i id
  cases ho:ob id with
  | none=>rw [ho] at he; cases he
  | some o=>rw [ho] at he; rw [h id rfl o ho]; exact he
 .cases he
theorem aSrcL_monoR {ob ob':Nat->Option AObj} {x:AV} (h:∀ i,(x=.arr i)->∀ o,ob i=some o->ob' i=some o) {t:TypeId} {k:Nat} {r:Rows} (he:aSrcL P ob t k x=some r):aSrcL P ob' t k x=some r:=by
 unfold aSrcL at he ⊢
 split at he
 .exact he
 .exact he
 .rename_i id
  cases ho:ob id with
  | none=>rw [ho] at he; cases he
  | some o=>rw [ho] at he; rw [h id rfl o ho]; exact he
 .cases he
theorem evAppend_monoR {ob ob':Nat->Option AObj} {t tx:TypeId} {x y:AV} (hx:∀ i,(x=.arr i)->∀ o,ob i=some o->ob' i=some o) (hy:∀ i,(y=.arr i)->∀ o,ob i=some o->ob' i=some o)
 {r:AObj×Option Nat×Option Prop} (he:evAppend P ob t tx [x,y]=some r):evAppend P ob' t tx [x,y]=some r:=by
 unfold evAppend at he ⊢
 dsimp only at he ⊢
 cases hS:sliceE P t with
 | none=>rw [hS] at he; cases he
 | some e=>
  rw [hS] at he
  dsimp only at he ⊢
  cases hb:aBase ob e x with
  | none=>
   rw [hb] at he
   split at he
   .rename_i h4; cases h4
   .cases he
  | some bb=>
   rw [aBase_monoR hx hb]
   rw [hb] at he
   split at he
   .rename_i k' b' z old bo h1 h2 h3 h4
    cases h4
    split at he
    .split at he
     .split at he
      .rename_i hsrc; rw [aSrcB_monoR hy hsrc]; exact he
      .rename_i hsrc; rw [aSrcB_monoR hy hsrc]; exact he
      .cases he
     .split at he
      .rename_i hsrc; rw [aSrcL_monoR hy hsrc]; exact he
      .rename_i hsrc; rw [aSrcL_monoR hy hsrc]; exact he
      .cases he
    .cases he
   .cases he
end Go.Am
namespace Go.Am
open Go Go.RowKit
variable {P:Program} {γ γ':Nat->Option G} {M M':Mem} {C:Ctx} {s s':S} {a a':Act} {w w':World}
def appendOp:Op->Bool
 | .call ⟨.builtin .append,_,_⟩=>true
 | _=>false
def memOp (op:Op):Bool:=birthOp op||appendOp op
def argsOf (s:S) (o:Oper):List AV:=o.op.operands.toList.map (aev s.sl)
structure SemX (s:S) (o:Oper):Prop where
 free:∀ d,s.us d=false->s.ob d=none
 rel:All (stripOp none o.op (argsOf s o)).2->∃ γ M vs,ARels γ M (stripOp none o.op (argsOf s o)).1 vs/\∀ d,s.us d=false->γ d=none
theorem St.sem (h:St C s a w) (o:Oper):SemX s o:=by
 obtain ⟨γ,M,h⟩:=h
 refine ⟨fun d hd=>?_,fun hp=>⟨γ,M,_,stripOp_rel (g:=none) trivial (ARels.map (aev_rel h.sl) _) hp,fun d hd=>h.us d hd⟩⟩
 cases ho:s.ob d with
 | none=>rfl
 | some o'=>
  obtain ⟨g,hg⟩:=(h.ob d o' ho).ghost
  rw [h.us d hd] at hg; cases hg
theorem estep_mem {nt:Nat} {ops:Array Oper} {o:Oper} {p:List Prop} (hm:memOp o.op=true) (h:estep P nt ops o s=some (s',p)):
 guardOf ops s.sl o=some none/\∃ d,o.dst=some d/\dstOk nt (some d)=true/\s.us d=false/\
  ((birthOp o.op=true/\∃ ob ok,evB P o.op (stripOp none o.op (argsOf s o)).1=some (ob,ok)/\s.ob d=none/\s'=sbirth s d ob/\p=(stripOp none o.op (argsOf s o)).2++oks none ok)\/
   (∃ as ts t tx x y r, o.op = .call ⟨.builtin .append, as, ts⟩ ∧ ts[0]? = some t ∧ ts[1]? = some tx ∧ ts.size = 2 ∧ (stripOp none o.op (argsOf s o)).1 = [x, y] ∧ evAppend P s.ob t tx [x, y] = some r ∧
      s'=sappend s d r.2.1 r.1/\p=(stripOp none o.op (argsOf s o)).2++oks none r.2.2)):=by
 unfold estep at h
 split at h
 .rename_i hg hd
  obtain ⟨⟨s2,ok⟩,hE,he⟩:=map_some h
  cases he
  refine ⟨hg,?_⟩
  unfold evE at hE
  split at hE
  .rename_i hop; rw [hop] at hm; cases hm
  .rename_i as ts hop
   split at hE
   .rename_i t tx d x y ht htx hdst hxs
    split at hE
    .rename_i hu hsz
     obtain ⟨r,hr,he⟩:=map_some hE
     cases he
     exact ⟨d,hdst,by rw [<-hdst]; exact hd,hu,.inr ⟨as,ts,t,tx,x,y,r,hop,ht,htx,hsz,hxs,hr,rfl,rfl⟩⟩
    .cases hE
   .cases hE
  .rename_i hn1 hn2
   split at hE
   .rename_i ob ok' d hB hdst
    split at hE
    .rename_i hu ho
     cases hE
     refine ⟨d,hdst,by rw [<-hdst]; exact hd,hu,.inl ⟨?_,ob,ok,hB,ho,rfl,rfl⟩⟩
     unfold memOp at hm
     rw [Bool.or_eq_true] at hm
     rcases hm with hm | hm
     .exact hm
     .exfalso
      unfold appendOp at hm
      split at hm
      .rename_i as ts hop; exact hn2 as ts hop
      .cases hm
    .cases hE
   .cases hE
 .cases h
theorem estep_birth {nt:Nat} {ops:Array Oper} {o:Oper} {d:Nat} {ob:AObj} {ok:Option Prop} (hg:guardOf ops s.sl o=some none) (hd:o.dst=some d) (hdk:dstOk nt (some d)=true) (hu:s.us d=false)
 (hb:birthOp o.op=true) (hB:evB P o.op (stripOp none o.op (argsOf s o)).1=some (ob,ok)) (ho:s.ob d=none):
 estep P nt ops o s=some (sbirth s d ob,(stripOp none o.op (argsOf s o)).2++oks none ok):=by
 unfold estep
 rw [hg,hd,hdk]
 show (evE P s o (stripOp none o.op (argsOf s o)).1).map _=_
 unfold evE
 split
 .rename_i hop; rw [hop] at hb; cases hb
 .rename_i hop; rw [hop] at hb; cases hb
 .rw [hB,hd]
  dsimp only
  rw [hu,ho]
  rfl
theorem estep_append {nt:Nat} {ops:Array Oper} {o:Oper} {d:Nat} {as:Array Operand} {ts:Array TypeId} {t tx:TypeId} {x y:AV} {r:AObj×Option Nat×Option Prop} (hg:guardOf ops s.sl o=some none) (hd:o.dst=some d)
 (hdk:dstOk nt (some d)=true) (hu:s.us d=false) (hop:o.op=.call ⟨.builtin .append,as,ts⟩) (h1:ts[0]?=some t) (h2:ts[1]?=some tx) (h3:ts.size=2)
 (hxs:(stripOp none o.op (argsOf s o)).1=[x,y]) (hr:evAppend P s.ob t tx [x,y]=some r):
 estep P nt ops o s=some (sappend s d r.2.1 r.1,(stripOp none o.op (argsOf s o)).2++oks none r.2.2):=by
 unfold estep
 rw [hg,hd,hdk]
 show (evE P s o (stripOp none o.op (argsOf s o)).1).map _=_
 rw [hxs]
 unfold evE
 rw [hop]
 simp only
 rw [h1,h2,hd]
 simp only [hu,h3,hr]
 unfold argsOf
 rw [hop]
 rfl
theorem mem_eff {op:Op} (h:memOp op=true):effOp op=true:=by
 unfold memOp at h
 rw [Bool.or_eq_true] at h
 rcases h with h | h
 .cases op <;> first | rfl | (simp only [birthOp,reduceCtorEq] at h)
 .unfold appendOp at h
  split at h
  .rfl
  .cases h
theorem guardOf_none {ops:Array Oper} {o:Oper} (h:o.guard=none) (σ:Nat->AV):guardOf ops σ o=some none:=by unfold guardOf; rw [h]
theorem mem_back {d:Nat} {old:Option Nat} {o:AObj} {ob:Nat->Option AObj} (hd:γ d=none):RLe γ (upd (delO ob old) d (some o)) ob:=by
 intro i hi o' ho
 have hne:i≠d:=by intro e; subst e; exact hi hd
 rw [upd_ne _ _ hne] at ho
 cases old with
 | none=>exact ho
 | some id=>
  unfold delO at ho
  by_cases e:i=id
  .subst e; dsimp only at ho; rw [upd_same] at ho; cases ho
  .dsimp only at ho; rw [upd_ne _ _ e] at ho; exact ho
theorem swap_mv {env:Env} {nt:Nat} {ops:Array Oper} {x y:Oper} {s s1 s2:S} {p1 p2:List Prop} (hap:Oper.apart ops y x=true) (hy:memOp y.op=true) (ex:effOp x.op=false) (hxg:x.guard=none) (hsem:SemX s x)
 (h1:astep P env nt ops y s=some (s1,p1)) (h2:astep P env nt ops x s1=some (s2,p2)) (hp:All p2):
 ∃ s1',astep P env nt ops x s=some (s1',p2)/\astep P env nt ops y s1'=some (s2,p1):=by
 obtain ⟨a1,a2,a3⟩:=apart_dst hap
 rw [astep_eff (mem_eff hy)] at h1
 rw [astep_val ex] at h2
 obtain ⟨rx,hx,he⟩:=map_some h2
 cases he
 obtain ⟨hv,e1,e2,_⟩:=estep_inv h1
 obtain ⟨hg,d,hdst,hdk,hu,hform⟩:=estep_mem hy h1
 have hargs:argsOf s1 x=argsOf s x:=by unfold argsOf; rw [e1]; exact args_pset a1 s.sl hv
 have hback:∀ γ:Nat->Option G,γ d=none->RLe γ s1.ob s.ob:=by
  intro γ hγ
  rcases hform with ⟨_,o,ok,_,ho,hs1,_⟩ | ⟨_,_,_,_,_,_,r,_,_,_,_,_,_,hs1,_⟩
  .rw [hs1]; exact mem_back (old:=none) hγ
  .rw [hs1]; exact mem_back hγ
 have hx':vstep P env nt ops x s.sl s.ob=some rx:=by
  unfold vstep at hx ⊢
  rw [guardOf_none hxg] at hx ⊢
  have ea:x.op.operands.toList.map (aev s1.sl)=x.op.operands.toList.map (aev s.sl):=hargs
  rw [ea] at hx
  split at hx
  .rename_i g hg1 hd1
   cases hg1
   cases hev:evV P env s1.ob x.op (stripOp none x.op (x.op.operands.toList.map (aev s.sl))).1 with
   | none=>rw [hev] at hx; cases hx
   | some q=>
    rw [hev] at hx
    obtain ⟨v,ok⟩:=q
    cases hx
    obtain ⟨γ,M,vs,hrel,hfree⟩:=hsem.rel (All.append hp).1
    have hrel':ARels γ M (stripOp none x.op (x.op.operands.toList.map (aev s.sl))).1 vs:=hrel
    rw [evV_monoR (hback γ (hfree d hu)) hrel' hev]
  .cases hx
 refine ⟨aset s x.dst rx.v,by rw [astep_val ex,hx']; rfl,?_⟩
 rw [astep_eff (mem_eff hy)]
 have:=e2 (pset s.sl x.dst rx.v) (guard_pset a3 s.sl rx.v) (args_pset a3 s.sl rx.v)
 refine this.trans ?_
 simp only [aset]
 rw [e1,pset_comm rx.v hv (fun d hd e=>a2 d e hd)]
end Go.Am
namespace Go.Am
open Go Go.RowKit
variable {P:Program} {γ γ':Nat->Option G} {M M':Mem} {C:Ctx} {s s':S} {a a':Act} {w w':World}
theorem birth_eff {op:Op} (h:birthOp op=true):memOp op=true:=by unfold memOp; rw [h]; rfl
theorem delO_upd {ob:Nat->Option AObj} {old:Option Nat} {d:Nat} {o:Option AObj} (h:old≠some d):delO (upd ob d o) old=upd (delO ob old) d o:=by
 cases old with
 | none=>rfl
 | some i=>
  have:i≠d:=fun e=>h (by rw [e])
  unfold delO
  dsimp only
  exact upd_comm ob _ _ (fun e=>this e.symm)
theorem delO_ne {ob:Nat->Option AObj} {old:Option Nat} {i:Nat} (h:old≠some i):delO ob old i=ob i:=by
 cases old with
 | none=>rfl
 | some j=>exact upd_ne _ _ (fun e=>h (by rw [e]))
theorem aBase_old {ob:Nat->Option AObj} {e:TypeId} {x:AV} {i:Nat} {bo:Option AObj} (h:aBase ob e x=some (some i,bo)):x=.arr i/\ob i≠none:=by
 unfold aBase at h
 split at h
 .cases h
 .rename_i id
  cases ho:ob id with
  | none=>rw [ho] at h; cases h
  | some o=>
   rw [ho] at h
   dsimp only at h
   unfold bool? at h
   split at h
   .cases h; exact ⟨rfl,by rw [ho]; simp⟩
   .cases h
 .cases h
theorem evAppend_old {ob:Nat->Option AObj} {t tx:TypeId} {x y:AV} {r:AObj×Option Nat×Option Prop} (h:evAppend P ob t tx [x,y]=some r) {i:Nat} (hi:r.2.1=some i):x=.arr i/\ob i≠none:=by
 unfold evAppend at h
 dsimp only at h
 split at h
 .rename_i e hS
  split at h
  .rename_i k' b' z old bo h1 h2 h3 h4
   have:r.2.1=old:=by
    split at h
    .split at h
     .split at h
      .cases h; rfl
      .cases h; rfl
      .cases h
     .split at h
      .cases h; rfl
      .split at h
       .cases h; rfl
       .cases h
      .cases h
    .cases h
   rw [this] at hi
   rw [hi] at h4
   exact aBase_old h4
  .cases h
 .cases h
theorem birth_append {op:Op} {as:Array Operand} {ts:Array TypeId} (h:birthOp op=true) (e:op=.call ⟨.builtin .append,as,ts⟩):False:=by rw [e] at h; cases h
theorem swap_mb {env:Env} {nt:Nat} {ops:Array Oper} {x y:Oper} {s s1 s2:S} {p1 p2:List Prop} (hap:Oper.apart ops y x=true) (hy:memOp y.op=true) (hx:birthOp x.op=true) (hsem:SemX s x)
 (h1:astep P env nt ops y s=some (s1,p1)) (h2:astep P env nt ops x s1=some (s2,p2)):
 ∃ s1',astep P env nt ops x s=some (s1',p2)/\astep P env nt ops y s1'=some (s2,p1):=by
 obtain ⟨a1,a2,a3⟩:=apart_dst hap
 rw [astep_eff (mem_eff hy)] at h1
 rw [astep_eff (mem_eff (birth_eff hx))] at h2
 obtain ⟨hv,e1,_,_⟩:=estep_inv h1
 obtain ⟨hg,d,hdst,hdk,hu,hform⟩:=estep_mem hy h1
 obtain ⟨hgx,dx,hdstx,hdkx,hux,hformx⟩:=estep_mem (birth_eff hx) h2
 have hne:dx≠d:=fun e=>a2 d hdst (by rw [hdstx,e])
 have hargs:argsOf s1 x=argsOf s x:=by unfold argsOf; rw [e1]; exact args_pset a1 s.sl hv
 have hgx':guardOf ops s.sl x=some none:=by rw [<-hgx,e1]; exact (guard_pset a1 s.sl hv).symm
 rcases hformx with ⟨_,ox,okx,hB,hox,hs2,hp2⟩ | ⟨_,_,_,_,_,_,_,hop,_⟩
 .rw [hargs] at hB hp2
  have hus:s.us dx=false:=by
   rcases hform with ⟨_,o,ok,_,ho,hs1,_⟩ | ⟨_,_,_,_,_,_,r,_,_,_,_,_,_,hs1,_⟩ <;>
    (rw [hs1] at hux; exact (upd_ne s.us true hne).symm.trans hux)
  have hob:s.ob dx=none:=hsem.free dx hus
  refine ⟨sbirth s dx ox,?_,?_⟩
  .rw [astep_eff (mem_eff (birth_eff hx)),estep_birth hgx' hdstx hdkx hus hx hB hob,hp2]
  .rw [astep_eff (mem_eff hy)]
   have a3':∀ d,some dx=some d->d ∉ Oper.looksAt ops y:=fun d hd=>a3 d (by rw [hdstx]; exact hd)
   have hgy:guardOf ops (sbirth s dx ox).sl y=some none:=(guard_pset (dst:=some dx) a3' s.sl _).trans hg
   have hargy:argsOf (sbirth s dx ox) y=argsOf s y:=args_pset (dst:=some dx) a3' s.sl _
   have huy:(sbirth s dx ox).us d=false:=(upd_ne s.us true (fun e=>hne e.symm)).trans hu
   rcases hform with ⟨hb,o,ok,hBy,ho,hs1,hp1⟩ | ⟨as,ts,t,tx,x',y',r,hop,ht,htx,hsz,hxs,hr,hs1,hp1⟩
   .rw [estep_birth hgy hdst hdk huy hb (by rw [hargy]; exact hBy) ((upd_ne s.ob _ (fun e=>hne e.symm)).trans ho),hargy,hs2,hs1,hp1]
    unfold sbirth
    dsimp only
    rw [upd_comm s.sl _ _ hne,upd_comm s.ob _ _ hne,upd_comm s.us _ _ hne]
   .have hr':evAppend P (sbirth s dx ox).ob t tx [x',y']=some r:=by
     have k:∀ i o,s.ob i=some o->(sbirth s dx ox).ob i=some o:=by
      intro i o hi
      have:i≠dx:=by intro e; rw [e,hob] at hi; cases hi
      exact (upd_ne s.ob _ this).trans hi
     exact evAppend_monoR (fun i _=>k i) (fun i _=>k i) hr
    have hold:r.2.1≠some dx:=fun e=>(evAppend_old hr e).2 hob
    rw [estep_append hgy hdst hdk huy hop ht htx hsz (by rw [hargy]; exact hxs) hr',hargy,hs2,hs1,hp1]
    unfold sbirth sappend
    dsimp only
    rw [upd_comm s.sl _ _ hne,delO_upd hold,upd_comm (delO s.ob r.2.1) _ _ hne,upd_comm s.us _ _ hne]
 .exact (birth_append hx hop).elim
end Go.Am
namespace Go.Am
open Go Go.RowKit
variable {P:Program} {C:Ctx} {s s':S} {a a':Act} {w w':World}
def emask (acc:List Nat):List Edge->Nat
 | []=>0
 | e::r=>(if Region.binds .any e then (1 <<< e.on)||| acc.getD e.on 0 else 0)||| emask acc r
def masks:List Oper->List Nat->List Nat
 | [],acc=>acc
 | o::r,acc=>masks r (acc++[emask acc o.after.toList])
def Done (ops:Array Oper) (listed:Nat->Bool) (x:Nat):Prop:=∀ o,ops[x]?=some o->∀ e ∈ o.after,Region.binds .any e=true->listed e.on=true
def Closed (ops:Array Oper) (listed:Nat->Bool):Prop:=∀ x,listed x=true->Done ops listed x
def MaskOk (ops:Array Oper) (x m:Nat):Prop:=∀ listed,Closed ops listed->Done ops listed x->∀ y,m.testBit y=true->listed y=true
theorem emask_ok {ops:Array Oper} {acc:List Nat} (hacc:∀ x m,acc[x]?=some m->MaskOk ops x m):∀ (l:List Edge) (listed:Nat->Bool),Closed ops listed->
 (∀ e ∈ l,Region.binds .any e=true->listed e.on=true)->∀ y,(emask acc l).testBit y=true->listed y=true
 | [],_,_,_,y,h=>by simp [emask] at h
 | e::r,listed,hc,hd,y,h=>by
  simp only [emask,Nat.testBit_or,Bool.or_eq_true] at h
  rcases h with h | h
  .split at h
   .rename_i hb
    have he:=hd e (List.mem_cons_self ..) hb
    simp only [Nat.testBit_or,Bool.or_eq_true] at h
    rcases h with h | h
    .rw [Nat.one_shiftLeft,Nat.testBit_two_pow] at h
     rw [<-of_decide_eq_true h]; exact he
    .cases hx:acc[e.on]? with
     | none=>rw [List.getD_eq_getElem?_getD,hx] at h; simp at h
     | some m=>
      rw [List.getD_eq_getElem?_getD,hx] at h
      exact hacc _ _ hx listed hc (hc _ he) y h
   .simp at h
  .exact emask_ok hacc r listed hc (fun e' he'=>hd e' (List.mem_cons_of_mem _ he')) y h
theorem masks_ok {ops:Array Oper}:∀ (l:List Oper) (acc:List Nat),(∀ i o,l[i]?=some o->ops[acc.length+i]?=some o)->(∀ x m,acc[x]?=some m->MaskOk ops x m)->
 ∀ x m,(masks l acc)[x]?=some m->MaskOk ops x m
 | [],acc,_,h2,x,m,hm=>h2 x m hm
 | o::r,acc,h1,h2,x,m,hm=>by
  refine masks_ok r (acc++[emask acc o.after.toList]) (fun i o' ho=>?_) (fun x' m' hx=>?_) x m hm
  .have:=h1 (i+1) o' (by simpa using ho)
   simp only [List.length_append,List.length_singleton]
   rw [show acc.length+1+i=acc.length+(i+1) by omega]; exact this
  .rw [List.getElem?_append] at hx
   split at hx
   .exact h2 x' m' hx
   .rename_i hlt
    have hx0:x' - acc.length=0:=by
     cases hk:x' - acc.length with
     | zero=>rfl
     | succ k=>rw [hk] at hx; simp at hx
    rw [hx0] at hx
    simp only [List.getElem?_cons_zero,Option.some.injEq] at hx
    subst hx
    intro listed hc hd y hy
    have ho:=h1 0 o rfl
    rw [show acc.length+0=x' by omega] at ho
    exact emask_ok h2 o.after.toList listed hc (fun e he hb=>hd o ho e (by simpa using he) hb) y hy
theorem sublist_split {l:List Nat} (hs:l.Pairwise (· < ·)) {x:Nat} (hx:x ∈ l):∃ l1 l2,l=l1++x::l2/\∀ y ∈ l1,y < x:=by
 obtain ⟨l1,l2,rfl⟩:=List.append_of_mem hx
 refine ⟨l1,l2,rfl,fun y hy=>?_⟩
 exact (List.pairwise_append.1 hs).2.2 y hy x (List.mem_cons_self ..)
def lsF (listed:Array Bool):Nat->Bool:=fun i=>listed.getD i false
end Go.Am
namespace Go.Am
open Go Go.RowKit
variable {P:Program} {γ γ':Nat->Option G} {M M':Mem} {C:Ctx} {s s':S} {a a':Act} {w w':World}
structure Objs (γ:Nat->Option G) (M:Mem) (w:World) (obF:Nat->Option AObj) (L:Nat->Prop):Prop where
 ob:∀ id o,obF id=some o->OM γ M w id o
 sep:∀ id id' g g' b,obF id≠none->obF id'≠none->γ id=some g->γ id'=some g'->g.blk=some b->g'.blk=some b->id=id'
 lo:∀ id g b,obF id≠none->γ id=some g->g.blk=some b->L b
theorem Objs_mk {obF:Nat->Option AObj} {L:Nat->Prop} {o:List (Nat×AObj)} (ids:List (Nat×Nat)) (ren:Nat->Option Nat)
 (hids:o.map (·.1)=ids.map (·.1))
 (ho:All (o.map fun p=>usesO ids p.2/\match ren p.1 with
  | some old=>∃ ob0,obF old=some ob0/\CovO ren ob0 p.2
  | none=>∀ k,lookO p.1 ids=some k->emptyO k p.2))
 (hinj:∀ i j old,ren i=some old->ren j=some old->(lookO i ids).isSome=true->(lookO j ids).isSome=true->i=j)
 (h:Objs γ M w obF L):Objs (renG γ ids ren) M w (fun i=>lookO i o) L:=by
 have hkeys:∀ i,(lookO i o).isSome=(lookO i ids).isSome:=by
  have:∀ (o:List (Nat×AObj)) (ids:List (Nat×Nat)),o.map (·.1)=ids.map (·.1)->∀ i,(lookO i o).isSome=(lookO i ids).isSome:=by
   intro o
   induction o with
   | nil=>intro ids he i; cases ids with | nil=>rfl | cons _ _=>cases he
   | cons p o ih=>
    intro ids he i
    cases ids with
    | nil=>cases he
    | cons q ids=>
     simp only [List.map_cons,List.cons.injEq] at he
     unfold lookO
     rw [he.1]
     cases Nat.beq i q.1 with
     | true=>rfl
     | false=>exact ih ids he.2 i
  exact this o ids hids
 have hob:∀ i ob,lookO i o=some ob->usesO ids ob/\match ren i with
  | some old=>∃ ob0,obF old=some ob0/\CovO ren ob0 ob
  | none=>∀ k,lookO i ids=some k->emptyO k ob:=fun i ob hi=>AllL ho _ (lookO_mem hi)
 have hγ:∀ i g,renG γ ids ren i=some g->(∃ old,ren i=some old/\γ old=some g/\(lookO i ids).isSome=true)\/∃ k,g=.arr none k 0 0:=by
  intro i g hg
  unfold renG at hg
  cases hl':lookO i ids with
  | none=>rw [hl'] at hg; cases hg
  | some k=>
   rw [hl'] at hg
   cases hr:ren i with
   | none=>rw [hr] at hg; cases hg; exact .inr ⟨k,rfl⟩
   | some old=>rw [hr] at hg; exact .inl ⟨old,rfl,hg,rfl⟩
 refine ⟨?_,?_,?_⟩
 .intro id ob hi
  have hi':lookO id o=some ob:=hi
  obtain ⟨hu,hc⟩:=hob id ob hi'
  have hsome:(lookO id ids).isSome=true:=by rw [<-hkeys,hi']; rfl
  obtain ⟨k,hk⟩:=Option.isSome_iff_exists.1 hsome
  cases hr:ren id with
  | none=>
   rw [hr] at hc
   have hem:=hc k hk
   have hg:renG γ ids ren id=some (.arr none k 0 0):=by unfold renG; simp only [hk,hr]
   cases ob with
   | cells cs=>exact hem.elim
   | bcv _ _=>exact hem.elim
   | bldr _ _=>exact hem.elim
   | raw _=>exact hem.elim
   | barr e mu l'=>
    obtain ⟨rfl,rfl⟩:=hem
    exact ⟨none,0,hg,arrOK_nil M w e mu 1⟩
   | larr e mu k' R=>
    obtain ⟨rfl,h0⟩:=hem
    exact ⟨none,0,[],by rw [h0]; exact hg,(fun i j hi _=>by omega),by rw [h0]; exact arrOK_nil M w e mu k⟩
  | some old=>
   rw [hr] at hc
   obtain ⟨ob0,ho0,hcov⟩:=hc
   have hom:=h.ob old ob0 ho0
   have hg:∀ g,γ old=some g->renG γ ids ren id=some g:=fun g hg=>by unfold renG; simp only [hk,hr]; exact hg
   cases hcov with
   | refl_b e mu l'=>
    obtain ⟨a',cap,h1,h2⟩:=hom
    exact ⟨a',cap,hg _ h1,h2⟩
   | larr e mu k' R=>
    obtain ⟨a',cap,vs,h1,h2,h3⟩:=hom
    exact ⟨a',cap,vs,hg _ h1,h2,h3⟩
   | bcv e l'=>obtain ⟨g,cur,h1,h2⟩:=hom; exact ⟨g,cur,hg _ h1,h2⟩
   | raw o'=>obtain ⟨b,h1,h2⟩:=hom; exact ⟨b,hg _ h1,h2⟩
   | bldr T x x' hx=>obtain ⟨b,v0,v1,h1,h2,h3,h4,h5,h6⟩:=hom; exact ⟨b,v0,v1,hg _ h1,h2,h3,hx.rel hu h4,h5,h6⟩
   | cells cs cs' e1 e2=>
    obtain ⟨b,vs,e,h1,h2,h3,h4,h5⟩:=hom
    exact ⟨b,vs,e,hg _ h1,h2,by omega,fun j hj=>⟨(e2 j hj).rel (hu j hj) (h4 j (by omega)).1,(h4 j (by omega)).2⟩,h5⟩
 .intro i j g g' b _ _ hg hg' hb hb'
  rcases hγ i g hg with ⟨old,hr,hgo,hs1⟩ | ⟨k,rfl⟩
  .rcases hγ j g' hg' with ⟨old',hr',hgo',hs2⟩ | ⟨k,rfl⟩
   . -- both are old objects that stand
    have h1:obF old≠none:=by
     obtain ⟨ob,hob1⟩:=Option.isSome_iff_exists.1 ((hkeys i).trans hs1)
     obtain ⟨_,hc⟩:=hob i ob hob1
     rw [hr] at hc
     obtain ⟨ob0,ho0,_⟩:=hc
     rw [ho0]; simp
    have h2:obF old'≠none:=by
     obtain ⟨ob,hob1⟩:=Option.isSome_iff_exists.1 ((hkeys j).trans hs2)
     obtain ⟨_,hc⟩:=hob j ob hob1
     rw [hr'] at hc
     obtain ⟨ob0,ho0,_⟩:=hc
     rw [ho0]; simp
    have e:=h.sep old old' g g' b h1 h2 hgo hgo' hb hb'
    subst e
    exact hinj i j old hr hr' hs1 hs2
   .cases hb'
  .cases hb
 .intro i g b hoi hg hb
  rcases hγ i g hg with ⟨old,hr,hgo,hs1⟩ | ⟨k,rfl⟩
  .have h1:obF old≠none:=by
    obtain ⟨ob,hob1⟩:=Option.isSome_iff_exists.1 ((hkeys i).trans hs1)
    obtain ⟨_,hc⟩:=hob i ob hob1
    rw [hr] at hc
    obtain ⟨ob0,ho0,_⟩:=hc
    rw [ho0]; simp
   exact h.lo old g b h1 hgo hb
  .cases hb
end Go.Am
namespace Go.Am
open Go Go.RowKit
variable {P:Program} {γ γ':Nat->Option G} {M M':Mem} {C:Ctx} {s s':S} {a a':Act} {w w':World}
def Handed (γ:Nat->Option G) (ib:List (Nat×AObj)) (b:Nat):Prop:=∃ id g,lookO id ib≠none/\γ id=some g/\g.blk=some b
def FnR (P:Program) (f:FuncId) (args:List AV) (ib:List (Nat×AObj)) (kept:List Nat) (r:AV) (outs:List (Nat×AObj)):Prop:=
 ∀ (γ:Nat->Option G) (M:Mem) (w:World) (vs:List Value),Objs γ M w (fun i=>lookO i ib) (fun b=>b < w.heap.size)->(∀ i,lookO i ib=none->γ i=none)->MOk M w->ARels γ M args vs->
  Calls P f vs.toArray w fun e w'=>∃ v γ' M',e=.returned v/\(∀ i ∈ kept,∀ g,γ i=some g->γ' i=some g)/\MLe M M'/\MOk M' w'/\ARel γ' M' r v/\
   Objs γ' M' w' (fun i=>lookO i outs) (fun b=>(w.heap.size<=b\/Handed γ ib b)/\b < w'.heap.size)/\
   (∀ b,b < w.heap.size->¬ Handed γ ib b->w'.heap[b]?=w.heap[b]?/\M' b=M b)/\w.heap.size<=w'.heap.size/\w'.os=w.os/\w'.tape=w.tape/\w'.output=w.output
def prsRn (ps:List (Nat×Nat)):Rn:=ps.map fun p=>(p.1,some p.2)
def prsFw (ps:List (Nat×Nat)):Rn:=ps.map fun p=>(p.2,some p.1)
def prsOk (ps:List (Nat×Nat)):Bool:=nodupB (ps.map (·.1))&&nodupB (ps.map (·.2))
theorem renF_mem {rn:Rn} {i old:Nat} (h:renF rn i=some old):(i,some old) ∈ rn:=by
 unfold renF at h
 split at h
 .rename_i q hq; cases h; exact lookO_mem hq
 .cases h
theorem prs_rn {ps:List (Nat×Nat)} (h:prsOk ps=true) {i j:Nat} (hm:(i,j) ∈ ps):renF (prsRn ps) i=some j:=by
 unfold prsOk at h
 rw [Bool.and_eq_true] at h
 have h1:nodupB ((prsRn ps).map (·.1))=true:=by simpa [prsRn,List.map_map,Function.comp_def] using h.1
 have:lookO i (prsRn ps)=some (some j):=lookO_of_mem h1 (List.mem_map.2 ⟨(i,j),hm,rfl⟩)
 unfold renF; rw [this]
theorem prs_fw {ps:List (Nat×Nat)} (h:prsOk ps=true) {i j:Nat} (hm:(i,j) ∈ ps):renF (prsFw ps) j=some i:=by
 unfold prsOk at h
 rw [Bool.and_eq_true] at h
 have h1:nodupB ((prsFw ps).map (·.1))=true:=by simpa [prsFw,List.map_map,Function.comp_def] using h.2
 have:lookO j (prsFw ps)=some (some i):=lookO_of_mem h1 (List.mem_map.2 ⟨(i,j),hm,rfl⟩)
 unfold renF; rw [this]
theorem prs_fw_mem {ps:List (Nat×Nat)} {i j:Nat} (h:renF (prsFw ps) j=some i):(i,j) ∈ ps:=by
 obtain ⟨p,hp,he⟩:=List.mem_map.1 (renF_mem h)
 cases he; exact hp
theorem prs_rn_mem {ps:List (Nat×Nat)} {i j:Nat} (h:renF (prsRn ps) i=some j):(i,j) ∈ ps:=by
 obtain ⟨p,hp,he⟩:=List.mem_map.1 (renF_mem h)
 cases he; exact hp
def use1F (fw:Rn):AV->Bool
 | .any=>true
 | .p _=>true
 | .ref id _=>(renF fw id).isSome
 | .arr id=>(renF fw id).isSome
 | _=>false
def useF (fw:Rn):AV->Bool
 | .clo _ fs cs=>fs.all (use1F fw)&&cs.all (use1F fw)
 | .agg cs=>cs.all (use1F fw)
 | .tup cs=>cs.all (use1F fw)
 | x=>use1F fw x
def useOF (fw:Rn):AObj->Bool
 | .cells cs=>cs.all (useF fw)
 | .bldr _ a=>useF fw a
 | _=>true
section
variable {rn fw:Rn} {ids:List (Nat×Nat)} (hinv:∀ i j,renF fw j=some i->renF rn i=some j/\(lookO i ids).isSome=true)
include hinv
theorem cov1F {x:AV} (h:use1F fw x=true):CovA (renF rn) x (ren1 fw x)/\Uses ids (ren1 fw x):=by
 cases x with
 | any=>exact ⟨.any _,.any⟩
 | p q=>exact ⟨.p q,.p q⟩
 | ref id off=>
  obtain ⟨n,hn⟩:=Option.isSome_iff_exists.1 h
  obtain ⟨h1,h2⟩:=hinv n id hn
  simp only [ren1,hn]
  exact ⟨.ref _ _ _ h1,.ref _ _ h2⟩
 | arr id=>
  obtain ⟨n,hn⟩:=Option.isSome_iff_exists.1 h
  obtain ⟨h1,h2⟩:=hinv n id hn
  simp only [ren1,hn]
  exact ⟨.arr _ _ h1,.arr _ h2⟩
 | _=>cases h
theorem covBF {x:AV} (h:useF fw x=true):CovA (renF rn) x (renA fw x)/\Uses ids (renA fw x):=by
 have lists:∀ cs:List AV,cs.all (use1F fw)=true->(∀ i,i < (cs.map (ren1 fw)).length->CovA (renF rn) (cs.getD i .any) ((cs.map (ren1 fw)).getD i .any))/\∀ i,i < (cs.map (ren1 fw)).length->Uses ids ((cs.map (ren1 fw)).getD i .any):=by
  intro cs hc
  refine ⟨fun i hi=>?_,fun i hi=>?_⟩
  .rw [map_getD (ren1 fw) rfl]; exact (cov1F hinv (all_get hc (by simpa using hi) .any)).1
  .rw [map_getD (ren1 fw) rfl]; exact (cov1F hinv (all_get hc (by simpa using hi) .any)).2
 cases x with
 | clo fn fs cs=>
  simp only [useF,Bool.and_eq_true] at h
  obtain ⟨h1,h2⟩:=lists fs h.1
  obtain ⟨h3,h4⟩:=lists cs h.2
  exact ⟨.clo _ _ _ _ _ (by simp) (by simp) h1 h3,.clo _ _ _ h2 h4⟩
 | agg cs=>
  obtain ⟨h1,h2⟩:=lists cs h
  exact ⟨.agg _ _ (by simp) h1,.agg _ h2⟩
 | tup cs=>
  obtain ⟨h1,h2⟩:=lists cs h
  exact ⟨.tup _ _ (by simp) h1,.tup _ h2⟩
 | any=>exact cov1F hinv (x:=.any) h
 | p q=>exact cov1F hinv (x:=.p q) h
 | ref id off=>exact cov1F hinv (x:=.ref id off) h
 | arr id=>exact cov1F hinv (x:=.arr id) h
 | aptr _ _ _=>cases h
 | gd _ _=>cases h
theorem covOF {o:AObj} (h:useOF fw o=true):CovO (renF rn) o (renO fw o)/\usesO ids (renO fw o):=by
 cases o with
 | barr e mu l=>exact ⟨.refl_b _ _ _,trivial⟩
 | larr e mu k R=>exact ⟨.larr _ _ _ _,trivial⟩
 | bcv e l=>exact ⟨.bcv _ _,trivial⟩
 | raw o=>exact ⟨.raw _,trivial⟩
 | bldr T x=>have hc:useF fw x=true:=h; exact ⟨.bldr _ _ _ (covBF hinv hc).1,(covBF hinv hc).2⟩
 | cells cs=>
  have hc:cs.all (useF fw)=true:=h
  refine ⟨.cells _ _ (by simp) fun i hi=>?_,fun i hi=>?_⟩
  .rw [map_getD (renA fw) rfl]; exact (covBF hinv (all_get hc (by simpa using hi) .any)).1
  .rw [map_getD (renA fw) rfl]; exact (covBF hinv (all_get hc (by simpa using hi) .any)).2
end
theorem All_of {α:Type} {p:α->Prop}:∀ {l:List α},(∀ x ∈ l,p x)->All (l.map p)
 | [],_=>trivial
 | x::l,h=>⟨h x (List.mem_cons_self ..),All_of fun y hy=>h y (List.mem_cons_of_mem _ hy)⟩
theorem allSome_mem {α β:Type} {f:α->Option β} {l:List α}:∀ {r:List β},allSome f l=some r->(∀ y ∈ r,∃ x ∈ l,f x=some y)/\(∀ x ∈ l,∃ y ∈ r,f x=some y):=by
 induction l with
 | nil=>intro r h; cases h; exact ⟨fun _ h=>(nomatch h),fun _ h=>(nomatch h)⟩
 | cons x l ih=>
  intro r h
  simp only [allSome] at h
  cases hx:f x with
  | none=>rw [hx] at h; cases h
  | some y=>
   cases hl:allSome f l with
   | none=>rw [hx,hl] at h; cases h
   | some ys=>
    rw [hx,hl] at h; cases h
    obtain ⟨h1,h2⟩:=ih hl
    refine ⟨fun z hz=>?_,fun z hz=>?_⟩
    .rcases List.mem_cons.1 hz with e | hz
     .exact ⟨x,List.mem_cons_self ..,by rw [e]; exact hx⟩
     .obtain ⟨u,hu,he⟩:=h1 z hz; exact ⟨u,List.mem_cons_of_mem _ hu,he⟩
    .rcases List.mem_cons.1 hz with e | hz
     .exact ⟨y,List.mem_cons_self ..,by rw [e]; exact hx⟩
     .obtain ⟨u,hu,he⟩:=h2 z hz; exact ⟨u,List.mem_cons_of_mem _ hu,he⟩
def handO (obF:Nat->Option AObj) (ps:List (Nat×Nat)):Option (List (Nat×AObj)):=
 allSome (fun p=>match obF p.2 with | some o=>(match useOF (prsFw ps) o with | true=>some (p.1,renO (prsFw ps) o) | false=>none) | none=>none) ps
theorem handO_spec {obF:Nat->Option AObj} {ps:List (Nat×Nat)} {ib:List (Nat×AObj)} (h:handO obF ps=some ib):
 ib.map (·.1)=ps.map (·.1)/\(∀ q ∈ ib,∃ j o,(q.1,j) ∈ ps/\obF j=some o/\useOF (prsFw ps) o=true/\q.2=renO (prsFw ps) o)/\∀ i j,(i,j) ∈ ps->obF j≠none:=by
 unfold handO at h
 generalize hfw:prsFw ps=fw at h
 have hf:∀ (p:Nat×Nat) (q:Nat×AObj),(match obF p.2 with | some o=>(match useOF fw o with | true=>some (p.1,renO fw o) | false=>none) | none=>none)=some q->q.1=p.1/\∃ o,obF p.2=some o/\useOF fw o=true/\q.2=renO fw o:=by
  intro p q hq
  cases ho:obF p.2 with
  | none=>rw [ho] at hq; cases hq
  | some o=>
   rw [ho] at hq
   dsimp only at hq
   cases hu:useOF fw o with
   | false=>rw [hu] at hq; cases hq
   | true=>rw [hu] at hq; cases hq; exact ⟨rfl,o,rfl,hu,rfl⟩
 refine ⟨?_,?_,?_⟩
 .clear hfw
  have:∀ (l:List (Nat×Nat)) (r:List (Nat×AObj)),allSome (fun p=>match obF p.2 with | some o=>(match useOF fw o with | true=>some (p.1,renO fw o) | false=>none) | none=>none) l=some r->r.map (·.1)=l.map (·.1):=by
   intro l
   induction l with
   | nil=>intro r h; cases h; rfl
   | cons x l ih=>
    intro r h
    simp only [allSome] at h
    split at h
    .rename_i y ys hx hl
     cases h
     have:=(hf x y hx).1
     simp [this,ih ys hl]
    .cases h
  exact this ps ib h
 .intro q hq
  obtain ⟨p,hp,he⟩:=(allSome_mem h).1 q hq
  obtain ⟨h1,o,h2,h3,h4⟩:=hf p q he
  exact ⟨p.2,o,by rw [h1]; exact hp,h2,h3,h4⟩
 .intro i j hm
  obtain ⟨y,_,he⟩:=(allSome_mem h).2 _ hm
  obtain ⟨_,o,h2,_⟩:=hf (i,j) y he
  show obF j≠none
  rw [show obF j=some o from h2]; simp
theorem lookO_isSome {α:Type}:∀ {l:List (Nat×α)} {i:Nat},i ∈ l.map (·.1)->(lookO i l).isSome=true
 | [],_,h=>by cases h
 | p::l,i,h=>by
  unfold lookO
  cases hb:Nat.beq i p.1 with
  | true=>rfl
  | false=>
   rcases List.mem_cons.1 h with e | e
   .subst e; simp at hb
   .exact lookO_isSome e
theorem lookO_key {α:Type} {l:List (Nat×α)} {i:Nat} (h:(lookO i l).isSome=true):i ∈ l.map (·.1):=by
 obtain ⟨x,hx⟩:=Option.isSome_iff_exists.1 h
 exact List.mem_map.2 ⟨_,lookO_mem hx,rfl⟩
theorem hand_inv {ps:List (Nat×Nat)} (hok:prsOk ps=true) {ib:List (Nat×AObj)} (hk:ib.map (·.1)=ps.map (·.1)):
 ∀ i j,renF (prsFw ps) j=some i->renF (prsRn ps) i=some j/\(lookO i (idsOf ib)).isSome=true:=by
 intro i j h
 have hm:=prs_fw_mem h
 refine ⟨prs_rn hok hm,lookO_isSome ?_⟩
 have:(idsOf ib).map (·.1)=ps.map (·.1):=by rw [<-hk]; simp [idsOf]
 rw [this]
 exact List.mem_map.2 ⟨_,hm,rfl⟩
theorem Objs_hand {obF:Nat->Option AObj} {L:Nat->Prop} (h:Objs γ M w obF L) {ps:List (Nat×Nat)} (hok:prsOk ps=true) {ib:List (Nat×AObj)} (hib:handO obF ps=some ib):
 Objs (renG γ (idsOf ib) (renF (prsRn ps))) M w (fun i=>lookO i ib) L:=by
 obtain ⟨hk,hq,_⟩:=handO_spec hib
 have hinv:=hand_inv hok hk
 refine Objs_mk (idsOf ib) (renF (prsRn ps)) (by simp [idsOf]) (All_of fun q hqm=>?_) (fun i j old hi hj _ _=>?_) h
 .obtain ⟨j,o,hm,ho,hu,he⟩:=hq q hqm
  obtain ⟨c1,c2⟩:=covOF hinv hu
  rw [prs_rn hok hm,he]
  exact ⟨c2,o,ho,c1⟩
 .have h1:=prs_fw hok (prs_rn_mem hi)
  have h2:=prs_fw hok (prs_rn_mem hj)
  rw [h1] at h2; cases h2; rfl
theorem renG_some {ids:List (Nat×Nat)} {ps:List (Nat×Nat)} {i:Nat} {g:G} (hk:ids.map (·.1)=ps.map (·.1)) (hok:prsOk ps=true) (h:renG γ ids (renF (prsRn ps)) i=some g):
 ∃ j,(i,j) ∈ ps/\γ j=some g:=by
 unfold renG at h
 cases hl:lookO i ids with
 | none=>rw [hl] at h; cases h
 | some k=>
  rw [hl] at h
  have:i ∈ ps.map (·.1):=by rw [<-hk]; exact lookO_key (by rw [hl]; rfl)
  obtain ⟨p,hp,he⟩:=List.mem_map.1 this
  have hr:=prs_rn hok (i:=i) (j:=p.2) (by rw [<-he]; exact hp)
  rw [hr] at h
  exact ⟨p.2,by rw [<-he]; exact hp,h⟩
theorem renG_at {ids:List (Nat×Nat)} {ps:List (Nat×Nat)} {i j:Nat} (hk:ids.map (·.1)=ps.map (·.1)) (hok:prsOk ps=true) (hm:(i,j) ∈ ps):renG γ ids (renF (prsRn ps)) i=γ j:=by
 unfold renG
 have:(lookO i ids).isSome=true:=lookO_isSome (by rw [hk]; exact List.mem_map.2 ⟨_,hm,rfl⟩)
 obtain ⟨k,hl⟩:=Option.isSome_iff_exists.1 this
 simp only [hl,prs_rn hok hm]
theorem ARels.ren {rn fw:Rn} {ids:List (Nat×Nat)} (hinv:∀ i j,renF fw j=some i->renF rn i=some j/\(lookO i ids).isSome=true):
 ∀ {xs:List AV} {vs:List Value},xs.all (useF fw)=true->ARels γ M xs vs->ARels (renG γ ids (renF rn)) M (xs.map (renA fw)) vs
 | _,_,_,.nil=>.nil
 | _,_,hu,.cons h1 h2=>by
  simp only [List.all_cons,Bool.and_eq_true] at hu
  obtain ⟨c1,c2⟩:=covBF hinv hu.1
  exact .cons (c1.rel c2 h1) (ARels.ren hinv hu.2 h2)
end Go.Am
namespace Go.Am
open Go Go.RowKit
variable {P:Program} {γ γ':Nat->Option G} {M M':Mem} {C:Ctx} {s s':S} {a a':Act} {w w':World}
structure RSpec where
 sn:List Bool
 sp:List AV->List (Nat×AObj)->Option ((List Nat×AV)×(List (Nat×AObj)×Option Prop))
abbrev EnvR:=FuncId->Option RSpec
def SpecROk (P:Program) (f:FuncId) (sp:RSpec):Prop:=∀ args ib kept r outs ok,sp.sp args ib=some ((kept,r),(outs,ok))->okP ok->callable P f=true/\FnR P f args ib kept r outs
def EnvROk (P:Program) (env:EnvR):Prop:=∀ f sp,env f=some sp->SpecROk P f sp
def mids (ob:Nat->Option AObj):List Bool->List AV->Option (List AV)
 | true::sn,x::xs=>match snap ob x,mids ob sn xs with
  | some y,some ys=>some (y::ys)
  | _,_=>none
 | false::sn,x::xs=>match mids ob sn xs with
  | some ys=>some (x::ys)
  | none=>none
 | [],[]=>some []
 | _,_=>none
def elemB (x:Nat) (l:List Nat):Bool:=l.any (Nat.beq x)
def ids1:AV->List Nat
 | .ref id _=>[id]
 | .arr id=>[id]
 | _=>[]
def idsA:AV->List Nat
 | .clo _ fs cs=>(fs++cs).flatMap ids1
 | .agg cs=>cs.flatMap ids1
 | .tup cs=>cs.flatMap ids1
 | x=>ids1 x
def addAll:List Nat->List Nat->List Nat
 | acc,[]=>acc
 | acc,x::r=>match elemB x acc with | true=>addAll acc r | false=>addAll (acc++[x]) r
def idsO (ob:Nat->Option AObj) (i:Nat):List Nat:=
 match ob i with
 | some (.cells cs)=>cs.flatMap idsA
 | some (.bldr _ a)=>idsA a
 | _=>[]
def collect (ob:Nat->Option AObj):Nat->List Nat->List Nat
 | 0,acc=>acc
 | n+1,acc=>collect ob n (addAll acc (acc.flatMap (idsO ob)))
def number:Nat->List Nat->List (Nat×Nat)
 | _,[]=>[]
 | n,x::r=>(n,x)::number (n+1) r
def freshId (us:Nat->Bool):Nat->Nat->Nat
 | 0,j=>j
 | n+1,j=>match us j with | true=>freshId us n (j+1) | false=>j
def outPr (us:Nat->Bool) (ps:List (Nat×Nat)) (kept:List Nat) (i:Nat):Nat×Nat:=
 match elemB i kept,lookO i ps with
 | true,some j=>(j,i)
 | _,_=>match i with
  | 0=>(freshId us 100 1000000,0)
  | n+1=>(freshId us 100 (1000000+1000 * (n+2)),n+1)
def qsOk (us:Nat->Bool) (ps:List (Nat×Nat)) (kept:List Nat) (qs:List (Nat×Nat)):Bool:=
 qs.all fun q=>!us q.1||(elemB q.2 kept&&(match lookO q.2 ps with | some j=>Nat.beq j q.1 | none=>false))
def merge (ob:Nat->Option AObj) (gone:List Nat) (ob':List (Nat×AObj)):Nat->Option AObj:=fun j=>
 match lookO j ob' with
 | some o=>some o
 | none=>match elemB j gone with | true=>none | false=>ob j
def evR (env:EnvR) (nt:Nat) (o:Oper) (s:S) (xs:List AV):Option (S×Option Prop):=
 match o.op,xs,dstOk nt o.dst with
 | .call ⟨.value _,_,_⟩,.clo (.func f) fs cs::ys,true=>match env f with
  | some sp=>match mids s.ob sp.sn (fs++(ys++cs)) with
   | some zs=>
    let ps:=number 70000 (collect s.ob 2 (addAll [] (zs.flatMap idsA)))
    match prsOk ps&&zs.all (useF (prsFw ps)),handO s.ob ps with
    | true,some ib=>match sp.sp (zs.map (renA (prsFw ps))) ib with
     | some ((kept,r),(outs,ok))=>
      let qs:=outs.map fun q=>outPr s.us ps kept q.1
      match prsOk qs&&useF (prsFw qs) r&&qsOk s.us ps kept qs,handO (fun i=>lookO i outs) qs with
      | true,some ob'=>some ({ sl:=pset s.sl o.dst (renA (prsFw qs) r),ob:=merge s.ob (ps.map (·.2)) ob',us:=fun j=>s.us j||(lookO j ob').isSome },ok)
      | _,_=>none
     | none=>none
    | _,_=>none
   | none=>none
  | none=>none
 | _,_,_=>none
theorem mids_rel (hs:StG C γ M s a w):∀ {sn:List Bool} {xs zs:List AV} {vs:List Value},mids s.ob sn xs=some zs->ARels γ M xs vs->ARels γ M zs vs:=by
 intro sn
 induction sn with
 | nil=>
  intro xs zs vs h hx
  cases xs with
  | nil=>cases h; exact hx
  | cons _ _=>cases h
 | cons b sn ih=>
  intro xs zs vs h hx
  cases xs with
  | nil=>cases b <;> cases h
  | cons x xs=>
   cases hx with
   | cons h1 h2=>
    cases b with
    | false=>
     simp only [mids] at h
     cases hm:mids s.ob sn xs with
     | none=>rw [hm] at h; cases h
     | some ys=>rw [hm] at h; cases h; exact .cons h1 (ih hm h2)
    | true=>
     simp only [mids] at h
     cases hp:snap s.ob x with
     | none=>rw [hp] at h; cases h
     | some y=>
      cases hm:mids s.ob sn xs with
      | none=>rw [hp,hm] at h; cases h
      | some ys=>rw [hp,hm] at h; cases h; exact .cons ((snap_rel hs hp h1).mono (fun _ _ hx=>by cases hx) (MLe.refl M)) (ih hm h2)
theorem elemB_spec {x:Nat} {l:List Nat}:elemB x l=true↔x ∈ l:=by
 unfold elemB
 rw [List.any_eq_true]
 constructor
 .rintro ⟨y,hy,h⟩; rw [Nat.eq_of_beq_eq_true h]; exact hy
 .intro h; exact ⟨x,h,by simp⟩
theorem StG.called (h:StG C γ M s a w) {dst:Option Nat} (hd:dstOk C.nt dst=true) {ps qs:List (Nat×Nat)} (hps:prsOk ps=true) (hqs:prsOk qs=true)
 {ib outs ob':List (Nat×AObj)} (hib:handO s.ob ps=some ib) (hob:handO (fun i=>lookO i outs) qs=some ob') {kept:List Nat} (hk:qsOk s.us ps kept qs=true)
 {γ2:Nat->Option G} {M2:Mem} {w2:World} {r:AV} {v:Value} (hur:useF (prsFw qs) r=true)
 (hkept:∀ i ∈ kept,∀ g,renG γ (idsOf ib) (renF (prsRn ps)) i=some g->γ2 i=some g) (hM:MLe M M2) (hmem:MOk M2 w2) (hr:ARel γ2 M2 r v)
 (hO:Objs γ2 M2 w2 (fun i=>lookO i outs) (fun b=>(w.heap.size<=b\/Handed (renG γ (idsOf ib) (renF (prsRn ps))) ib b)/\b < w2.heap.size))
 (hold:∀ b,b < w.heap.size->¬ Handed (renG γ (idsOf ib) (renF (prsRn ps))) ib b->w2.heap[b]?=w.heap[b]?/\M2 b=M b)
 (hsz:w.heap.size<=w2.heap.size) (hos:w2.os=w.os) (htape:w2.tape=w.tape) (hout:w2.output=w.output):
 St C { sl:=pset s.sl dst (renA (prsFw qs) r),ob:=merge s.ob (ps.map (·.2)) ob',us:=fun j=>s.us j||(lookO j ob').isSome } (a.put dst v) w2:=by
 obtain ⟨k1,k2,k3⟩:=handO_spec hib
 obtain ⟨o1,o2,o3⟩:=handO_spec hob
 have hidI:(idsOf ib).map (·.1)=ps.map (·.1):=by rw [<-k1]; simp [idsOf]
 have hidO:(idsOf ob').map (·.1)=qs.map (·.1):=by rw [<-o1]; simp [idsOf]
 have hON:=Objs_hand hO hqs hob
 have handed:∀ b,Handed (renG γ (idsOf ib) (renF (prsRn ps))) ib b->∃ j g,j ∈ ps.map (·.2)/\s.ob j≠none/\γ j=some g/\g.blk=some b:=by
  rintro b ⟨i,g,_,hg,hb⟩
  obtain ⟨j,hm,hgj⟩:=renG_some hidI hps hg
  exact ⟨j,g,List.mem_map.2 ⟨_,hm,rfl⟩,k3 i j hm,hgj,hb⟩
 let γn:Nat->Option G:=fun j=>match lookO j ob' with
  | some _=>renG γ2 (idsOf ob') (renF (prsRn qs)) j
  | none=>γ j
 have γn_in:∀ {j o},lookO j ob'=some o->γn j=renG γ2 (idsOf ob') (renF (prsRn qs)) j:=by
  intro j o ho; simp only [γn,ho]
 have γn_out:∀ {j},lookO j ob'=none->γn j=γ j:=by intro j ho; simp only [γn,ho]
 have hγ:GLe γ γn:=by
  intro j g hg
  cases ho:lookO j ob' with
  | none=>rw [γn_out ho]; exact hg
  | some o=>
   rw [γn_in ho]
   have:j ∈ qs.map (·.1):=by rw [<-o1]; exact lookO_key (by rw [ho]; rfl)
   obtain ⟨q,hq,he⟩:=List.mem_map.1 this
   have hq':(j,q.2) ∈ qs:=by rw [<-he]; exact hq
   rw [renG_at hidO hqs hq']
   have hc:=List.all_eq_true.1 hk _ hq'
   rw [Bool.or_eq_true] at hc
   rcases hc with hc | hc
   .rw [h.us j (by simpa using hc)] at hg; cases hg
   .rw [Bool.and_eq_true] at hc
    have hkm:=elemB_spec.1 hc.1
    have hl:=hc.2
    dsimp only at hl hkm
    cases hlp:lookO q.2 ps with
    | none=>rw [hlp] at hl; cases hl
    | some j'=>
     rw [hlp] at hl
     have:j'=j:=Nat.eq_of_beq_eq_true hl
     subst this
     refine hkept q.2 hkm g ?_
     rw [renG_at hidI hps (lookO_mem hlp)]; exact hg
 have hγ2:GLe (renG γ2 (idsOf ob') (renF (prsRn qs))) γn:=by
  intro j g hg
  cases ho:lookO j ob' with
  | some o=>rw [γn_in ho]; exact hg
  | none=>
   exfalso
   obtain ⟨i,hm,_⟩:=renG_some hidO hqs hg
   have:(lookO j ob').isSome=true:=lookO_isSome (by rw [o1]; exact List.mem_map.2 ⟨_,hm,rfl⟩)
   rw [ho] at this; cases this
 have hr':ARel γn M2 (renA (prsFw qs) r) v:=by
  obtain ⟨c1,c2⟩:=covBF (hand_inv hqs o1) hur
  exact (c1.rel c2 hr).mono hγ2 (MLe.refl M2)
 have stays:∀ {j},lookO j ob'=none->merge s.ob (ps.map (·.2)) ob' j≠none->j ∉ ps.map (·.2)/\merge s.ob (ps.map (·.2)) ob' j=s.ob j:=by
  intro j ho hm
  unfold merge at hm ⊢
  rw [ho] at hm ⊢
  dsimp only at hm ⊢
  cases he:elemB j (ps.map (·.2)) with
  | true=>rw [he] at hm; exact absurd rfl hm
  | false=>exact ⟨fun hmem=>Bool.noConfusion (he.symm.trans (elemB_spec.2 hmem)),rfl⟩
 have inob:∀ {j o},lookO j ob'=some o->merge s.ob (ps.map (·.2)) ob' j=some o:=by
  intro j o ho; unfold merge; rw [ho]
 have apart:∀ {j g b},j ∉ ps.map (·.2)->s.ob j≠none->γ j=some g->g.blk=some b->¬ Handed (renG γ (idsOf ib) (renF (prsRn ps))) ib b:=by
  intro j g b hj ho hg hb hh
  obtain ⟨j2,g2,h1,h2,h3,h4⟩:=handed b hh
  exact hj (h.sep j j2 g g2 b ho h2 hg h3 hb h4 ▸ h1)
 refine ⟨γn,M2,put_rel (dst:=dst) (by rw [h.nt]; exact hd) (fun t=>(h.sl t).mono hγ hM) hr',?_,?_,?_,?_,hmem,h.le.trans hM,?_,?_,by rw [put_defers]; exact h.df,by rw [put_size]; exact h.nt,h.gl.trans hγ⟩
 .intro id o ho
  cases hl:lookO id ob' with
  | some o'=>
   have:=inob hl
   have e:o'=o:=by have:=this.symm.trans ho; cases this; rfl
   subst e
   exact (hON.ob id o' hl).keep hγ2 (MLe.refl M2) fun _ _ _ _=>⟨rfl,rfl⟩
  | none=>
   obtain ⟨h1,h2⟩:=stays hl (by show merge s.ob (ps.map (·.2)) ob' id≠none; rw [show merge s.ob (ps.map (·.2)) ob' id=some o from ho]; simp)
   have ho':s.ob id=some o:=h2.symm.trans ho
   refine (h.ob id o ho').keep hγ hM fun g b hg hb=>?_
   exact hold b (h.lo id g b (by rw [ho']; simp) hg hb).2 (apart h1 (by rw [ho']; simp) hg hb)
 .intro id hu
  have hu':(s.us id||(lookO id ob').isSome)=false:=hu
  rw [Bool.or_eq_false_iff] at hu'
  have hl:lookO id ob'=none:=by cases hl:lookO id ob' with | none=>rfl | some _=>rw [hl] at hu'; cases hu'.2
  rw [γn_out hl]; exact h.us id hu'.1
 .intro i j g g' b hi hj hg hg' hb hb'
  have hi':merge s.ob (ps.map (·.2)) ob' i≠none:=hi
  have hj':merge s.ob (ps.map (·.2)) ob' j≠none:=hj
  cases hl:lookO i ob' with
  | some o=>
   rw [γn_in hl] at hg
   cases hl2:lookO j ob' with
   | some o2=>
    rw [γn_in hl2] at hg'
    exact hON.sep i j g g' b (by rw [hl]; simp) (by rw [hl2]; simp) hg hg' hb hb'
   | none=>
    exfalso
    rw [γn_out hl2] at hg'
    obtain ⟨h1,h2⟩:=stays hl2 hj'
    rw [h2] at hj'
    have hL:=(hON.lo i g b (by rw [hl]; simp) hg hb).1
    rcases hL with hL | hL
    .have:=(h.lo j g' b hj' hg' hb').2; omega
    .exact apart h1 hj' hg' hb' hL
  | none=>
   rw [γn_out hl] at hg
   obtain ⟨h1,h2⟩:=stays hl hi'
   rw [h2] at hi'
   cases hl2:lookO j ob' with
   | some o2=>
    exfalso
    rw [γn_in hl2] at hg'
    have hL:=(hON.lo j g' b (by rw [hl2]; simp) hg' hb').1
    rcases hL with hL | hL
    .have:=(h.lo i g b hi' hg hb).2; omega
    .exact apart h1 hi' hg hb hL
   | none=>
    rw [γn_out hl2] at hg'
    obtain ⟨h3,h4⟩:=stays hl2 hj'
    rw [h4] at hj'
    exact h.sep i j g g' b hi' hj' hg hg' hb hb'
 .intro i g b hi hg hb
  have hi':merge s.ob (ps.map (·.2)) ob' i≠none:=hi
  cases hl:lookO i ob' with
  | some o=>
   rw [γn_in hl] at hg
   obtain ⟨hL,hlt⟩:=hON.lo i g b (by rw [hl]; simp) hg hb
   refine ⟨?_,hlt⟩
   rcases hL with hL | hL
   .exact .inl (Nat.le_trans h.fr.size hL)
   .obtain ⟨j2,g2,_,h2,h3,h4⟩:=handed b hL
    exact (h.lo j2 g2 b h2 h3 h4).1
  | none=>
   rw [γn_out hl] at hg
   obtain ⟨_,h2⟩:=stays hl hi'
   rw [h2] at hi'
   have:=h.lo i g b hi' hg hb
   exact ⟨this.1,by omega⟩
 .intro b hb ho
  have hsz0:=h.fr.size
  refine (hold b (by omega) fun hh=>?_).2.trans (h.new b hb ho)
  obtain ⟨j2,g2,_,h2,h3,h4⟩:=handed b hh
  rcases (h.lo j2 g2 b h2 h3 h4).1 with h5 | h5
  .omega
  .exact ho h5
 .have hf:=h.fr
  refine ⟨hos.trans hf.os,htape.trans hf.tape,hout.trans hf.output,Nat.le_trans hf.size hsz,fun b hb ho=>?_⟩
  have hsz0:=hf.size
  refine (hold b (by omega) fun hh=>?_).1.trans (hf.block b hb ho)
  obtain ⟨j2,g2,_,h2,h3,h4⟩:=handed b hh
  rcases (h.lo j2 g2 b h2 h3 h4).1 with h5 | h5
  .omega
  .exact ho h5
theorem evR_sound {env:EnvR} (henv:EnvROk P env) (hs:StG C γ M s a w) (o:Oper) {xs:List AV} {ok:Option Prop}
 (h:evR env C.nt o s xs=some (s',ok)) (hok:okP ok) (hx:ARels γ M xs (o.op.operands.toList.map a.eval)) {next:Act->World->Prop} {Q:Exit->Act->World->Prop}
 (hn:∀ a' w',St C s' a' w'->next a' w'):o.wpIn (FW C.rd) 0 P a w next Q:=by
 obtain ⟨dst,op,type,pos,after,guard⟩:=o
 dsimp only at hx
 unfold evR at h
 dsimp only at h
 split at h
 .rename_i fop args ts f fs cs ys hd
  have hx':ARels γ M (.clo (.func f) fs cs::ys) (a.eval fop::args.toList.map a.eval):=by simpa [Op.operands,Call.operands] using hx
  cases hsp:env f with
  | none=>rw [hsp] at h; cases h
  | some sp=>
   rw [hsp] at h
   dsimp only at h
   cases hz:mids s.ob sp.sn (fs++(ys++cs)) with
   | none=>rw [hz] at h; cases h
   | some zs=>
    rw [hz] at h
    dsimp only at h
    generalize number 70000 (collect s.ob 2 (addAll [] (zs.flatMap idsA)))=ps at h
    split at h
    .rename_i ib hchk hib
     rw [Bool.and_eq_true] at hchk
     obtain ⟨hps,huse⟩:=hchk
     split at h
     .rename_i kept r outs ok' hr
      split at h
      .rename_i ob' hchk2 hob
       cases h
       rw [Bool.and_eq_true,Bool.and_eq_true] at hchk2
       obtain ⟨⟨hqs,hur⟩,hqok⟩:=hchk2
       obtain ⟨hcall,hfn⟩:=henv f sp hsp _ _ _ _ _ _ hr hok
       cases hx' with
       | cons h1 h2=>
        generalize hfv:a.eval fop=fv at h1
        cases h1 with
        | clo _ _ _ vf vc hf hc g1 g2=>
         have hall:ARels γ M (fs++(ys++cs)) (vf.toList++(args.toList.map a.eval++vc.toList)):=by
          refine (ARels.of_get (by simpa using hf) fun i hi=>?_).append (h2.append (ARels.of_get (by simpa using hc) fun i hi=>?_))
          .have:=g1 i hi; rw [Array.getD_eq_getD_getElem?] at this; simpa [List.getD_eq_getElem?_getD] using this
          .have:=g2 i hi; rw [Array.getD_eq_getD_getElem?] at this; simpa [List.getD_eq_getElem?_getD] using this
         have hz':=mids_rel hs hz hall
         obtain ⟨k1,k2,k3⟩:=handO_spec hib
         have hO0:Objs γ M w s.ob (fun b=>b < w.heap.size):=⟨hs.ob,hs.sep,fun id g b h1 h2 h3=>(hs.lo id g b h1 h2 h3).2⟩
         have hOi:=Objs_hand hO0 hps hib
         have hargs:=ARels.ren (hand_inv hps k1) huse hz'
         have hnone:∀ i,lookO i ib=none->renG γ (idsOf ib) (renF (prsRn ps)) i=none:=by
          intro i hi
          unfold renG
          cases hl:lookO i (idsOf ib) with
          | none=>rfl
          | some k=>
           have:(lookO i ib).isSome=(lookO i (idsOf ib)).isSome:=lookO_keys (by simp [idsOf]) i
           rw [hi,hl] at this; cases this
         have hC:=hfn _ M w _ hOi hnone hs.mem hargs
         have hrun:(execOp a.eval ⟨dst,.call ⟨.value fop,args,ts⟩,type,pos,after,guard⟩).run P w=.ok (.enter f (vf.toList++(args.toList.map a.eval++vc.toList)).toArray) w:=by
          simp only [execOp,resolve,hfv,Deferred.ofValue,Sem.run_bind,Sem.run_pure,Result.andThen_ok,invoke]
          have e:vf++args.map a.eval++vc=(vf.toList++(args.toList.map a.eval++vc.toList)).toArray:=by
           apply Array.ext'; simp
          rw [e]
          exact run_callFunc hcall _ w
         refine wpIn_call hrun (hC.mono fun e w' ⟨v,γ2,M2,he,hkept,hle,hmem,hrel,hO,hold,hsz,hos,htape,hout⟩=>⟨v,he,?_⟩)
         exact hn _ _ (hs.called hd hps hqs hib hob hqok hur hkept hle hmem hrel hO hold hsz hos htape hout)
      .cases h
     .cases h
    .cases h
 .cases h
def convOp:Op->Option (TypeId×TypeId)
 | .convert sT d _=>some (sT,d)
 | _=>none
theorem convOp_spec {op:Op} {sT d:TypeId} (h:convOp op=some (sT,d)):∃ x,op=.convert sT d x:=by
 cases op <;> first | cases h | skip
 exact ⟨_,rfl⟩
def cutOp:Op->Option TypeId
 | .slice t _ none (some _) none=>some t
 | _=>none
theorem cutOp_spec {op:Op} {t:TypeId} (h:cutOp op=some t):∃ x y,op=.slice t x none (some y) none:=by
 unfold cutOp at h
 split at h
 .cases h; exact ⟨_,_,rfl⟩
 .cases h
def evTrunc (P:Program) (nt:Nat) (o:Oper) (t:TypeId) (s:S) (xs:List AV):Option (S×Option Prop):=
 match o.dst,xs,dstOk nt o.dst with
 | some d,[.arr id,.p (.int _ hi)],true=>match s.us d,s.ob id,(sliceE P t).bind (sizeT P) with
  | false,some (.barr e true l),some 1=>some (sappend s d (some id) (.barr e true (l.take hi.toNat)),some (0<=hi/\hi<=(l.length:Int)))
  | false,some (.larr e true k (.dat c l)),some k'=>match Nat.beq k k' with
   | true=>some (sappend s d (some id) (.larr e true k (.dat c (l.take hi.toNat))),some (0<=hi/\hi<=(l.length:Int)))
   | false=>none
  | _,_,_=>none
 | _,_,_=>none
theorem evTrunc_sound (hs:StG C γ M s a w) (o:Oper) {t:TypeId} (hcut:cutOp o.op=some t) {s':S} {ok:Option Prop} {ρ:Operand->Value}
 (h:evTrunc P C.nt o t s (o.op.operands.toList.map (aev s.sl))=some (s',ok)) (hok:okP ok) (hx:ARels γ M (o.op.operands.toList.map (aev s.sl)) (o.op.operands.toList.map ρ)):
 ∃ v γ',(execOp ρ o).run P w=.ok (.value v) w/\StG C γ' M s' (a.put o.dst v) w:=by
 obtain ⟨dst,op,type,pos,after,guard⟩:=o
 dsimp only at *
 obtain ⟨x,y,rfl⟩:=cutOp_spec hcut
 generalize hxs:(List.map (aev s.sl) (Op.slice t x none (some y) none).operands.toList)=xs at h hx
 unfold evTrunc at h
 split at h
 .rename_i d id kk hi hdst hd
  dsimp only at hdst hd
  subst hdst
  have hx:ARels γ M [.arr id,.p (.int kk hi)] [ρ x,ρ y]:=hx
  split at h
  .rename_i e l hus hob hsz
   cases h
   cases hx with | cons ha hx=>
   cases hx with | cons hb hx=>
   obtain ⟨ad,k,n,cap,hg,e1⟩:=ha.arr_inv
   have e2:=hb.int_inv.1
   obtain ⟨ad',cap',hg',hA⟩:=hs.ob id _ hob
   rw [hg] at hg'; cases hg'
   obtain ⟨h0,h1⟩:0<=hi/\hi<=(l.length:Int):=hok
   obtain ⟨m,rfl⟩:=Int.eq_ofNat_of_zero_le h0
   have hm:m<=l.length:=by omega
   obtain ⟨e',he',hs1⟩:=Option.bind_eq_some_iff.1 hsz
   obtain ⟨i,hi1,hi2⟩:=sizeT_spec hs1
   have hu:=sliceE_spec he'
   have hel:P.elem t=e':=by simp [Program.elem,hu]
   have hnc:l.length<=cap:=by
    rcases hA.own.2 with ⟨hv,h0⟩ | ⟨g',cap',cur,hv,_,_,hnc,_⟩
    .omega
    .simp only [arrV,Value.slice.injEq] at hv
     omega
   have hrun:(execOp ρ ⟨some d,.slice t x none (some y) none,type,pos,after,guard⟩).run P w=.ok (.value (arrV ad m cap)) w:=by
    have hs2:=run_slice_h (P:=P) (w:=w) t (ad.map fun g=>⟨g,0,none⟩) l.length cap (by rw [hel]; exact hu) kk (m:Int) (by omega) (by omega)
    have h3:=run_sliceAt_slice (P:=P) (w:=w) t (ρ x) none (some (ρ y)) none (by rw [hel]; exact hu)
    rw [e1,e2] at h3
    simp only [execOp,Option.map_none,Option.map_some,e1,e2,Sem.run_bind]
    unfold arrV at *
    rw [h3,hs2,hel,run_sizeOf hs1]
    simp only [Result.andThen_ok,sliced,Int.toNat_natCast,Nat.sub_zero,Nat.zero_mul]
    cases ad with
    | none=>simp
    | some g=>simp [addr_add]
   refine ⟨arrV ad m cap,upd γ d (some (.arr ad 1 m cap)),hrun,?_⟩
   have hγ:GLe γ (upd γ d (some (.arr ad 1 m cap))):=by
    intro i g' hi
    by_cases e:i=d
    .subst e; rw [hs.us i hus] at hi; cases hi
    .rw [upd_ne _ _ e]; exact hi
   refine hs.master (s':=sappend s d (some id) (.barr e true (l.take m))) hγ (MLe.refl M)
    (put_rel (dst:=some d) (by rw [hs.nt]; exact hd) (fun t=>(hs.sl t).mono hγ (MLe.refl M)) (.arr d _ _ _ _ (upd_same _ _ _))) (by rw [put_size]; exact hs.nt) (by rw [put_defers]; exact hs.df) d
    ?_ (fun i hi=>upd_ne _ _ hi) ?_ ?_ (fun _ _ _ _ _ _ _=>⟨rfl,rfl⟩) ?_ ?_ (Nat.le_refl _) hs.mem (fun _ _ _=>rfl) hs.fr
   .intro i hi
    show upd (delO s.ob (some id)) d _ i=none\/upd (delO s.ob (some id)) d _ i=s.ob i
    rw [upd_ne _ _ hi]
    rcases Classical.em (delO s.ob (some id) i=none) with e | e
    .exact .inl e
    .exact .inr (delO_none e).1
   .intro i hi
    have hi':upd s.us d true i=false:=hi
    by_cases e:i=d
    .subst e; rw [upd_same] at hi'; cases hi'
    .rw [upd_ne _ _ e] at hi'; exact ⟨hi',e⟩
   .intro o' ho'
    have ho':upd (delO s.ob (some id)) d (some (AObj.barr e true (l.take m))) d=some o':=ho'
    rw [upd_same] at ho'; cases ho'
    have hlen:(l.take m).length=m:=by simp; omega
    refine ⟨ad,cap,by rw [hlen]; exact upd_same _ _ _,⟨?_,?_,?_,?_⟩⟩
    .rw [hlen]
     refine ⟨by simp; omega,?_⟩
     rcases hA.own.2 with ⟨hv,hn0⟩ | ⟨g',cap',cur,hv,hz,hh,hnc',hcm,hcs,htk⟩
     .have:m=0:=by omega
      subst this
      rw [hn0] at hv
      exact .inl ⟨hv,rfl⟩
     .simp only [arrV,Value.slice.injEq] at hv
      obtain ⟨hv1,_,hv3⟩:=hv
      subst hv3
      refine .inr ⟨g',cap,cur,by simp only [arrV]; rw [hv1],hz,hh,by omega,hcm,hcs,?_⟩
      rw [Nat.mul_one] at htk ⊢
      rw [List.map_take,<-htk,List.take_take,Nat.min_eq_left hm]
    .exact byteV_one _
    .rw [hlen]; exact Nat.le_trans hm hA.len
    .intro g hgg; exact hA.mem g hgg
   .intro i g g' b hi hob' hob2 hgi hgd hb hb'
    have hgd:upd γ d (some (.arr ad 1 m cap)) d=some g':=hgd
    rw [upd_same] at hgd; cases hgd
    have hob':upd (delO s.ob (some id)) d (some (AObj.barr e true (l.take m))) i≠none:=hob'
    rw [upd_ne _ _ hi] at hob'
    obtain ⟨q1,q2⟩:=delO_none hob'
    rw [q1] at hob'
    have:=hs.sep i id g _ b hob' (by rw [hob]; simp) hgi hg hb hb'
    exact q2 (by rw [this])
   .intro g b _ hgd hb
    have hgd:upd γ d (some (.arr ad 1 m cap)) d=some g:=hgd
    rw [upd_same] at hgd; cases hgd
    exact hs.lo id _ b (by rw [hob]; simp) hg hb
  .rename_i e k0 c l k' hus hob hsz
   split at h
   .rename_i hkb
    have hkk:k0=k':=Nat.eq_of_beq_eq_true hkb
    subst hkk
    cases h
    cases hx with | cons ha hx=>
    cases hx with | cons hb hx=>
    obtain ⟨ad,k,n,cap,hg,e1⟩:=ha.arr_inv
    have e2:=hb.int_inv.1
    obtain ⟨ad',cap',vs,hg',hR,hA⟩:=hs.ob id _ hob
    rw [hg] at hg'; cases hg'
    have hRn:(Rows.dat c l).n=l.length:=rfl
    rw [hRn] at hA hR hg
    obtain ⟨h0,h1⟩:0<=hi/\hi<=(l.length:Int):=hok
    obtain ⟨m,rfl⟩:=Int.eq_ofNat_of_zero_le h0
    have hm:m<=l.length:=by omega
    obtain ⟨e',he',hs1⟩:=Option.bind_eq_some_iff.1 hsz
    obtain ⟨i,hi1,hi2⟩:=sizeT_spec hs1
    have hu:=sliceE_spec he'
    have hel:P.elem t=e':=by simp [Program.elem,hu]
    have hnc:l.length<=cap:=by
     rcases hA.own.2 with ⟨hv,h0⟩ | ⟨g',cap',cur,hv,_,_,hnc,_⟩
     .omega
     .simp only [arrV,Value.slice.injEq] at hv
      omega
    have hrun:(execOp ρ ⟨some d,.slice t x none (some y) none,type,pos,after,guard⟩).run P w=.ok (.value (arrV ad m cap)) w:=by
     have hs2:=run_slice_h (P:=P) (w:=w) t (ad.map fun g=>⟨g,0,none⟩) l.length cap (by rw [hel]; exact hu) kk (m:Int) (by omega) (by omega)
     have h3:=run_sliceAt_slice (P:=P) (w:=w) t (ρ x) none (some (ρ y)) none (by rw [hel]; exact hu)
     rw [e1,e2] at h3
     simp only [execOp,Option.map_none,Option.map_some,e1,e2,Sem.run_bind]
     unfold arrV at *
     rw [hRn] at h3 ⊢
     rw [h3,hs2,hel,run_sizeOf hs1]
     simp only [Result.andThen_ok,sliced,Int.toNat_natCast,Nat.sub_zero,Nat.zero_mul]
     cases ad with
     | none=>simp
     | some g=>simp [addr_add]
    refine ⟨arrV ad m cap,upd γ d (some (.arr ad k0 m cap)),hrun,?_⟩
    have hγ:GLe γ (upd γ d (some (.arr ad k0 m cap))):=by
     intro i g' hi
     by_cases e:i=d
     .subst e; rw [hs.us i hus] at hi; cases hi
     .rw [upd_ne _ _ e]; exact hi
    have hlen:(Rows.dat c (l.take m)).n=m:=by show (l.take m).length=m; simp; omega
    refine hs.master (s':=sappend s d (some id) (.larr e true k0 (.dat c (l.take m)))) hγ (MLe.refl M)
     (put_rel (dst:=some d) (by rw [hs.nt]; exact hd) (fun t=>(hs.sl t).mono hγ (MLe.refl M)) (.arr d _ _ _ _ (upd_same _ _ _))) (by rw [put_size]; exact hs.nt) (by rw [put_defers]; exact hs.df) d
     ?_ (fun i hi=>upd_ne _ _ hi) ?_ ?_ (fun _ _ _ _ _ _ _=>⟨rfl,rfl⟩) ?_ ?_ (Nat.le_refl _) hs.mem (fun _ _ _=>rfl) hs.fr
    .intro i hi
     show upd (delO s.ob (some id)) d _ i=none\/upd (delO s.ob (some id)) d _ i=s.ob i
     rw [upd_ne _ _ hi]
     rcases Classical.em (delO s.ob (some id) i=none) with e | e
     .exact .inl e
     .exact .inr (delO_none e).1
    .intro i hi
     have hi':upd s.us d true i=false:=hi
     by_cases e:i=d
     .subst e; rw [upd_same] at hi'; cases hi'
     .rw [upd_ne _ _ e] at hi'; exact ⟨hi',e⟩
    .intro o' ho'
     have ho':upd (delO s.ob (some id)) d (some (AObj.larr e true k0 (.dat c (l.take m)))) d=some o':=ho'
     rw [upd_same] at ho'; cases ho'
     have hvl:vs.length=l.length * k0:=hA.own.1
     have hmk:m * k0<=l.length * k0:=Nat.mul_le_mul_right _ hm
     refine ⟨ad,cap,vs.take (m * k0),by rw [hlen]; exact upd_same _ _ _,?_,⟨?_,?_,?_,?_⟩⟩
     .intro i j hi hj
      rw [hlen] at hi
      obtain ⟨v,hv,hr⟩:=hR i j (by omega) hj
      have hij:i * k0+j < m * k0:=by
       have:(i+1) * k0<=m * k0:=Nat.mul_le_mul_right _ hi
       rw [Nat.add_mul,Nat.one_mul] at this; omega
      refine ⟨v,by rw [List.getElem?_take_of_lt hij]; exact hv,?_⟩
      have e3:(Rows.dat c (l.take m)).f i j=(Rows.dat c l).f i j:=by
       show cell c ((l.take m).getD i (dfl c)) j=cell c (l.getD i (dfl c)) j
       rw [List.getD_eq_getElem?_getD,List.getD_eq_getElem?_getD,List.getElem?_take_of_lt hi]
      rw [e3]; exact hr
     .rw [hlen]
      refine ⟨by rw [List.length_take,hvl]; omega,?_⟩
      rcases hA.own.2 with ⟨hv,hn0⟩ | ⟨g',cap',cur,hv,hz,hh,hnc',hcm,hcs,htk⟩
      .have:m=0:=by omega
       subst this
       rw [hn0] at hv
       exact .inl ⟨hv,rfl⟩
      .simp only [arrV,Value.slice.injEq] at hv
       obtain ⟨hv1,_,hv3⟩:=hv
       subst hv3
       refine .inr ⟨g',cap,cur,by simp only [arrV]; rw [hv1],hz,hh,by omega,hcm,hcs,?_⟩
       rw [<-htk,List.take_take,Nat.min_eq_left hmk]
     .intro v hv; exact hA.one v (List.mem_of_mem_take hv)
     .rw [hlen]; exact Nat.le_trans hm hA.len
     .intro g hgg; exact hA.mem g hgg
    .intro i g g' b hi hob' hob2 hgi hgd hb hb'
     have hgd:upd γ d (some (.arr ad k0 m cap)) d=some g':=hgd
     rw [upd_same] at hgd; cases hgd
     have hob':upd (delO s.ob (some id)) d (some (AObj.larr e true k0 (.dat c (l.take m)))) i≠none:=hob'
     rw [upd_ne _ _ hi] at hob'
     obtain ⟨q1,q2⟩:=delO_none hob'
     rw [q1] at hob'
     have:=hs.sep i id g _ b hob' (by rw [hob]; simp) hgi hg hb hb'
     exact q2 (by rw [this])
    .intro g b _ hgd hb
     have hgd:upd γ d (some (.arr ad k0 m cap)) d=some g:=hgd
     rw [upd_same] at hgd; cases hgd
     exact hs.lo id _ b (by rw [hob]; simp) hg hb
   .cases h
  .cases h
 .cases h
def astepR (P:Program) (env:Env) (envR:EnvR) (nt:Nat) (ops:Array Oper) (rs:List Nat) (i:Nat) (o:Oper) (s:S):Option (S×List Prop):=
 match elemB i rs with
 | false=>astep P env nt ops o s
 | true=>match o.guard with
  | none=>match convOp o.op with
   | some (sT,d2)=>match o.dst,evBytesOf P sT d2 (o.op.operands.toList.map (aev s.sl)),dstOk nt o.dst with
    | some d,some (ob,ok),true=>match s.us d with
     | false=>some (sbirth s d ob,oks none ok)
     | true=>none
    | _,_,_=>none
   | none=>match cutOp o.op with
    | some t=>(evTrunc P nt o t s (o.op.operands.toList.map (aev s.sl))).map fun r=>(r.1,oks none r.2)
    | none=>(evR envR nt o s (o.op.operands.toList.map (aev s.sl))).map fun r=>(r.1,oks none r.2)
  | some _=>match guardOf ops s.sl o,dstOk nt o.dst with
   | some (some c),true=>(evE P s o (stripOp (some c) o.op (o.op.operands.toList.map (aev s.sl))).1).map fun r=>(r.1,(stripOp (some c) o.op (o.op.operands.toList.map (aev s.sl))).2++((c=true)::oks none r.2))
   | _,_=>none
def aopsR (P:Program) (env:Env) (envR:EnvR) (nt:Nat) (ops:Array Oper) (rs:List Nat):List Nat->S->Option (S×List Prop)
 | [],s=>some (s,[])
 | i::r,s=>match ops[i]? with
  | none=>none
  | some o=>match astepR P env envR nt ops rs i o s with
   | none=>none
   | some (s1,p1)=>match aopsR P env envR nt ops rs r s1 with
    | none=>none
    | some (s2,p2)=>some (s2,p1++p2)
theorem astepR_sound {env:Env} (henv:EnvOk P env) {envR:EnvR} (henvR:EnvROk P envR) {ops:Array Oper} {rs:List Nat} {i:Nat} {o:Oper} {ps:List Prop}
 (h:astepR P env envR C.nt ops rs i o s=some (s',ps)) (hps:All ps)
 (hs:St C s a w) {next:Act->World->Prop} {Q:Exit->Act->World->Prop} (hn:∀ a' w',St C s' a' w'->next a' w'):
 if Region.wanted o (yielded ops a.tmps) then o.wpIn (FW C.rd) 0 P a w next Q else next (a.put o.dst undef) w:=by
 unfold astepR at h
 split at h
 .exact astep_sound henv h hps hs hn
 .split at h
  .rename_i hg
   have hw:Region.wanted o (yielded ops a.tmps)=true:=by unfold Region.wanted; rw [hg]
   split at h
   .rename_i sT d2 hconv
    split at h
    .rename_i d ob ok hdst hev hdok
     split at h
     .rename_i hus
      cases h
      obtain ⟨γ,M,hs⟩:=hs
      rw [if_pos hw]
      obtain ⟨x,hop⟩:=convOp_spec hconv
      have hargs:ARels γ M (o.op.operands.toList.map (aev s.sl)) (o.op.operands.toList.map a.eval):=ARels.map (aev_rel hs.sl) _
      obtain ⟨v,w',γ',M',hrun,hst⟩:=evBytes_sound (P:=P) hs o hdst (by rw [<-hdst]; exact hdok) hus hop hev hargs
      refine wpIn_value hrun ?_
      rw [<-hdst] at hst
      exact hn _ _ ⟨γ',M',hst⟩
     .cases h
    .cases h
   split at h
   .rename_i t hcut
    obtain ⟨⟨s1,ok⟩,he,hh⟩:=map_some h
    cases hh
    obtain ⟨γ,M,hs⟩:=hs
    rw [if_pos hw]
    have hargs:ARels γ M (o.op.operands.toList.map (aev s.sl)) (o.op.operands.toList.map a.eval):=ARels.map (aev_rel hs.sl) _
    obtain ⟨v,γ',hrun,hst⟩:=evTrunc_sound (P:=P) hs o hcut he (by cases ok with | none=>trivial | some p=>exact hps.1) hargs
    refine wpIn_value hrun ?_
    exact hn _ _ ⟨γ',M,hst⟩
   obtain ⟨⟨s1,ok⟩,he,hh⟩:=map_some h
   cases hh
   obtain ⟨γ,M,hs⟩:=hs
   rw [if_pos hw]
   have hargs:ARels γ M (o.op.operands.toList.map (aev s.sl)) (o.op.operands.toList.map a.eval):=ARels.map (aev_rel hs.sl) _
   refine evR_sound henvR hs o he ?_ hargs hn
   cases ok with
   | none=>trivial
   | some p=>exact hps.1
  .split at h
   .rename_i c hg hd
    obtain ⟨⟨s1,ok⟩,hE,he⟩:=map_some h
    cases he
    obtain ⟨γ,M,hs⟩:=hs
    obtain ⟨p1,hc,p2⟩:=All.append hps
    have hh:(Gd.holds (some c)):=hc
    obtain ⟨hw1,_⟩:=guardOf_spec hs hg
    rw [if_pos (hw1 hh)]
    have hargs:ARels γ M (o.op.operands.toList.map (aev s.sl)) (o.op.operands.toList.map a.eval):=ARels.map (aev_rel hs.sl) _
    have hok:okP ok:=by
     cases ok with
     | none=>trivial
     | some p=>exact p2.1
    exact evE_sound hs o hd hE hok (stripOp_rel hh hargs p1) fun γ' M' a' w' hst=>hn _ _ ⟨γ',M',hst⟩
   .cases h
theorem aopsR_sound {env:Env} (henv:EnvOk P env) {envR:EnvR} (henvR:EnvROk P envR) {ops:Array Oper} {rs:List Nat} {Q:Exit->Act->World->Prop}:∀ (l:List Nat) {s s':S} {ps:List Prop} {a:Act} {w:World},
 aopsR P env envR C.nt ops rs l s=some (s',ps)->All ps->St C s a w->(∀ a' w',St C s' a' w'->Q .normal a' w')->wpOpsIn (FW C.rd) 0 P ops Q l a w:=by
 intro l
 induction l with
 | nil=>intro s s' ps a w h hp hs hq; cases h; exact hq a w hs
 | cons i r ih=>
  intro s s' ps a w h hp hs hq
  simp only [aopsR] at h
  simp only [wpOpsIn]
  cases ho:ops[i]? with
  | none=>rw [ho] at h; cases h
  | some o=>
   rw [ho] at h
   dsimp only at h ⊢
   cases h1:astepR P env envR C.nt ops rs i o s with
   | none=>rw [h1] at h; cases h
   | some q=>
    obtain ⟨s1,p1⟩:=q
    rw [h1] at h
    dsimp only at h
    cases h2:aopsR P env envR C.nt ops rs r s1 with
    | none=>rw [h2] at h; cases h
    | some q=>
     obtain ⟨s2,p2⟩:=q
     rw [h2] at h
     cases h
     obtain ⟨hp1,hp2⟩:=All.append hp
     have:=astepR_sound henv henvR h1 hp1 hs (next:=wpOpsIn (FW C.rd) 0 P ops Q r) (Q:=Q) fun a' w' hs'=>ih h2 hp2 hs' hq
     split
     .rename_i hw; rw [if_pos hw] at this; exact this
     .rename_i hw; rw [if_neg hw] at this; exact ⟨fun _ _=>trivial,this⟩
def arunR (P:Program) (env:Env) (envR:EnvR) (nt:Nat) (rs:List Nat) (c:Code) (s:S) (rn:Rn) (l:List (Nat×AV)):Option (Bool×List AV×List (Option AObj)×List Prop):=
 match region? c with
 | some (_,ops,d)=>match aopsR P env envR nt ops rs (List.range ops.size) s with
  | some (s',ps)=>some (d,(view rn l s').1,(view rn l s').2,ps)
  | none=>none
 | none=>none
end Go.Am
