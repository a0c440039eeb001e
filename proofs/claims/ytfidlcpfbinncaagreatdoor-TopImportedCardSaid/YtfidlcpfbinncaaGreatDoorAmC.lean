/-
  An abstract machine over texts and its soundness; no condition of its own.
-/
import Derived.Test.YtfidlcpfbinncaaGreatDoorAmB
set_option linter.unusedVariables false
noncomputable section
/-! Regions whose order is open: every order answers as the text's. -/
namespace Go.Am
open Go Go.RowKit
variable {P:Program}{γ γ':Nat->Option G}{M M':Mem}{C:Ctx}{s s':S}{a a':Act}{w w':World}
def zU:Op->Bool
 | .alloc _|.box _ _|.buildSlice _ _ _|.makeSlice _ _ _|.makeMap _ _=>true
 | _=>false
def zah:Op->Bool
 | .store _ _ _=>true
 | .call ⟨.builtin .append,_,_⟩=>true
 | .mapUpdate _ _ _ _=>true
 | op=>zU op
def zaf:Op->Bool
 | .move _|.assign _|.pick _ _ _|.binOp _ _ _ _ _|.unOp _ _ _|.index _ _ _|.slice _ _ _ _ _|.extract _ _|.field _ _ _|.fieldAddr _ _ _|.makeFunc _ _ _|.nilCheck _|.build _ _=>true
 | _=>false
def ziD(ops:Array Oper)(y x:Oper):Bool:=
 Oper.apart ops y x&&((!zah y.op&&!zah x.op)||(!zah y.op&&zU x.op)||(zah y.op&&zaf x.op)||(zaf y.op&&zah x.op))
theorem zaM{α:Type}(f:Nat->α){i j:Nat}(x y:α)(h:i≠j):upd (upd f i x) j y=upd (upd f j y) i x:=by
 funext t
 by_cases h1:t=i
 .subst h1;rw[zh _ _ h,zc,zc]
 .by_cases h2:t=j
  .subst h2;rw[zc,zh _ _ h1,zc]
  .rw [zh _ _ h2,zh _ _ h1,zh _ _ h1,zh _ _ h2]
theorem zrt{ops:Array Oper}{o:Oper}{d:Nat}(h:d ∉ Oper.looksAt ops o)(σ:Nat->AV)(v:AV):
 o.op.operands.toList.map (aev (upd σ d v))=o.op.operands.toList.map (aev σ):=by
 refine List.map_congr_left fun x hx=>?_
 cases x with
 | tmp t=>
  have:t≠d:=by
   intro e;subst e
   exact h (List.mem_append_left _ (List.mem_filterMap.2 ⟨.tmp t,hx,rfl⟩))
  exact zh _ _ this
 | _=>rfl
theorem znq{ops:Array Oper}{o:Oper}{d:Nat}(h:d ∉ Oper.looksAt ops o)(σ:Nat->AV)(v:AV):zD ops (upd σ d v) o=zD ops σ o:=by
 unfold zD
 cases hg:o.guard with
 | none=>rfl
 | some jw=>
  obtain⟨j,want⟩:=jw
  dsimp only
  cases ht:(ops[j]?).bind (·.dst)with
  | none=>rfl
  | some t=>
   have:t≠d:=by
    intro e;subst e
    exact h (List.mem_append_right _ (by simp[hg,ht]))
   dsimp only
   rw[zh _ _ this]
structure Res where
 v:AV
 ps:List Prop
def yv(P:Program)(env:Env)(nt:Nat)(ops:Array Oper)(o:Oper)(σ:Nat->AV)(ob:Nat->Option AObj):Option Res:=
 match zD ops σ o,yu nt o.dst with
 | some g,true=>
  match evV P env ob o.op (zy g o.op (o.op.operands.toList.map (aev σ))).1 with
  | some (r,ok)=>some ⟨zuC g r,(zy g o.op (o.op.operands.toList.map (aev σ))).2++oks g ok⟩
  | none=>none
 | _,_=>none
theorem zmJ{env:Env}{nt:Nat}{ops:Array Oper}{o:Oper}{d:Nat}(h:d ∉ Oper.looksAt ops o)(σ:Nat->AV)(v:AV)(ob:Nat->Option AObj):
 yv P env nt ops o (upd σ d v) ob=yv P env nt ops o σ ob:=by
 unfold yv
 rw[znq h,zrt h]
theorem zCm{env:Env}{ob:Nat->Option AObj}{op:Op}(h:zah op=true)(xs:List AV):evV P env ob op xs=none:=by
 cases op <;> simp only[zah,zU,reduceCtorEq]at h <;> try rfl
 rename_i c
 obtain⟨callee,args,ts⟩:=c
 cases callee with
 | value f=>simp only[reduceCtorEq]at h
 | invoke r m=>simp only[reduceCtorEq]at h
 | builtin b=>cases b <;> first|rfl|(simp only[reduceCtorEq]at h)
theorem zsW{o:Oper}(h:zah o.op=false)(s:S)(xs:List AV):evE P s o xs=none:=by
 unfold evE
 split
 .rename_i heq;rw[heq]at h;cases h
 .rename_i heq;rw[heq]at h;cases h
 .rename_i heq;rw[heq]at h;cases h
 .have:evB P o.op xs=none:=by
   cases hop:o.op <;> rw[hop]at h <;> simp only[zah,zU,reduceCtorEq]at h <;> rfl
  rw[this]
theorem zP{env:Env}{nt:Nat}{ops:Array Oper}{o:Oper}(h:zah o.op=false)(s:S):
 yh P env nt ops o s=(yv P env nt ops o s.sl s.ob).map fun r=>(zcu s o.dst r.v,r.ps):=by
 unfold yh yv
 cases zD ops s.sl o with
 | none=>rfl
 | some g=>
  cases yu nt o.dst with
  | false=>rfl
  | true=>
   dsimp only
   cases evV P env s.ob o.op (zy g o.op (o.op.operands.toList.map (aev s.sl))).1 with
   | some q=>rfl
   | none=>
    dsimp only
    cases g with
    | some _=>rfl
    | none=>rw[zsW h];rfl
def zdw(P:Program)(nt:Nat)(ops:Array Oper)(o:Oper)(s:S):Option (S×List Prop):=
 match zD ops s.sl o,yu nt o.dst with
 | some none,true=>(evE P s o (zy none o.op (o.op.operands.toList.map (aev s.sl))).1).map fun r=>(r.1,(zy none o.op (o.op.operands.toList.map (aev s.sl))).2++oks none r.2)
 | _,_=>none
theorem zL{env:Env}{nt:Nat}{ops:Array Oper}{o:Oper}(h:zah o.op=true)(s:S):yh P env nt ops o s=zdw P nt ops o s:=by
 unfold yh zdw
 cases zD ops s.sl o with
 | none=>rfl
 | some g=>
  cases yu nt o.dst with
  | false=>cases g <;> rfl
  | true=>
   dsimp only
   rw[zCm h]
   cases g <;> rfl
def OLe(ob ob':Nat->Option AObj):Prop:=∀ i o,ob i=some o->ob' i=some o
theorem yJ{ob ob':Nat->Option AObj}(h:OLe ob ob'){x z:AV}(hs:zbT ob x=some z):zbT ob' x=some z:=by
 cases x with
 | arr id=>
  dsimp only[zbT]at hs ⊢
  cases ho:ob id with
  | none=>rw[ho]at hs;cases hs
  | some o=>rw[ho]at hs;rw[h id o ho];exact hs
 | _=>exact hs
theorem zcG{α β:Type}{f g:α->Option β}(h:∀ x y,f x=some y->g x=some y):∀ {l:List α} {r:List β},zx f l=some r->zx g l=some r:=by
 intro l
 induction l with
 | nil=>intro r hr;exact hr
 | cons x l ih=>
  intro r hr
  simp only[zx]at hr ⊢
  cases hx:f x with
  | none=>rw[hx]at hr;cases hr
  | some y=>
   cases hl:zx f l with
   | none=>rw[hx,hl]at hr;cases hr
   | some ys=>rw[hx,hl]at hr;rw[h x y hx,ih hl];exact hr
theorem zvv{ob ob':Nat->Option AObj}(h:OLe ob ob'){x z:AV}(hs:zeN ob x=some z):zeN ob' x=some z:=by
 cases x with
 | agg cs=>
  obtain⟨zs,hz,he⟩:=map_some hs
  cases he
  show(zx (zbT ob') cs).map AV.agg=_
  rw[zcG (fun x y=>yJ h) hz];rfl
 | clo fn fs cs=>
  simp only[zeN]at hs ⊢
  split at hs
  .rename_i fs' cs' h1 h2
   rw[zcG (fun x y=>yJ h) h1,zcG (fun x y=>yJ h) h2];exact hs
  .cases hs
 | any=>exact yJ h (x:=.any) hs
 | p q=>exact yJ h (x:=.p q) hs
 | ref i j=>exact yJ h (x:=.ref i j) hs
 | arr i=>exact yJ h (x:=.arr i) hs
 | aptr i j k=>exact yJ h (x:=.aptr i j k) hs
 | mref i=>exact yJ h (x:=.mref i) hs
 | tup l=>exact yJ h (x:=.tup l) hs
 | gd c y=>exact yJ h (x:=.gd c y) hs
theorem zzw{ob ob':Nat->Option AObj}(h:OLe ob ob'){op:Op}{xs:List AV}{r:AV×Option Prop}(he:evL P ob op xs=some r):evL P ob' op xs=some r:=by
 cases op <;> simp only[evL,reduceCtorEq]at he ⊢
 case load t x=>
  unfold zct at he ⊢
  split at he
  .rename_i id off
   cases ho:ob id with
   | none=>rw[ho]at he;cases he
   | some o=>rw[ho]at he;rw[h id o ho];exact he
  .exact he
  .rename_i id i j
   cases ho:ob id with
   | none=>rw[ho]at he;cases he
   | some o=>rw[ho]at he;rw[h id o ho];exact he
  .cases he
 case lookup t x i ck=>
  unfold zfc at he ⊢
  split at he
  .rename_i id k
   cases ho:ob id with
   | none=>rw[ho]at he;revert he;cases zsx P t <;> intro he <;> cases he
   | some o=>rw[ho]at he;rw[h id o ho];exact he
  .cases he
 case indexAddr t x i=>
  unfold yW at he ⊢
  split at he
  .rename_i id kk i'
   cases ho:ob id with
   | none=>rw[ho]at he;revert he;cases zaS P t <;> intro he <;> cases he
   | some o=>rw[ho]at he;rw[h id o ho];exact he
  .cases he
 case convert sT d x=>
  unfold zhF at he ⊢
  split at he
  .rename_i id
   cases ho:ob id with
   | none=>rw[ho]at he;cases he
   | some o=>rw[ho]at he;rw[h id o ho];exact he
  .exact he
  .exact he
  .cases he
 case call c=>
  obtain⟨callee,args,ts⟩:=c
  cases callee with
  | value f=>cases he
  | invoke r m=>cases he
  | builtin b=>
   cases b <;> dsimp only at he ⊢ <;> first|(cases he;done)|skip
   cases hts:ts[0]? with
   | none=>rw[hts]at he;cases he
   | some t=>
    rw[hts]at he
    dsimp only at he ⊢
    unfold ziL at he ⊢
    split at he
    .rename_i id
     cases ho:ob id with
     | none=>rw[ho]at he;cases he
     | some o=>rw[ho]at he;rw[h id o ho];exact he
    .cases he
theorem zzz{env:Env}{ob ob':Nat->Option AObj}(h:OLe ob ob'){op:Op}{xs:List AV}{r:AV×Option Prop}(he:evC env ob op xs=some r):evC env ob' op xs=some r:=by
 unfold evC at he ⊢
 split at he
 .split at he
  .rename_i f fs cs ys
   cases hz:zx (zeN ob) (fs++(ys++cs))with
   | none=>rw[hz]at he;cases he
   | some zs=>rw[hz]at he;rw[zcG (fun x y=>zvv h) hz];exact he
  .cases he
 .cases he
theorem zlC{env:Env}{ob ob':Nat->Option AObj}(h:OLe ob ob'){op:Op}{xs:List AV}{r:AV×Option Prop}(he:evV P env ob op xs=some r):evV P env ob' op xs=some r:=by
 unfold evV at he ⊢
 cases h1:evP P op xs with
 | some q=>rw[h1]at he;exact he
 | none=>
  rw[h1]at he
  dsimp only at he ⊢
  cases h2:evL P ob op xs with
  | some q=>rw[h2]at he;rw[zzw h h2];exact he
  | none=>
   rw[h2]at he
   dsimp only at he
   have h3:evL P ob' op xs=none\/∃ q,evL P ob' op xs=some q:=by cases evL P ob' op xs with|none=>exact .inl rfl|some q=>exact .inr ⟨q,rfl⟩
   split at he
   .rename_i t ps
    have:evL P ob' (.build t ps) xs=none:=rfl
    rw[this];exact he
   .rename_i hne
    have hc:∃ f args ts,op=.call ⟨.value f,args,ts⟩:=by
     unfold evC at he
     split at he
     .exact ⟨_,_,_,rfl⟩
     .cases he
    obtain⟨f,args,ts,rfl⟩:=hc
    have:evL P ob' (.call ⟨.value f,args,ts⟩) xs=none:=rfl
    rw[this]
    exact zzz h he
theorem zlB{env:Env}{ob ob':Nat->Option AObj}{op:Op}(h:zaf op=true)(xs:List AV):evV P env ob op xs=evV P env ob' op xs:=by
 unfold evV
 cases op <;> simp only[zaf,reduceCtorEq]at h <;> rfl
theorem zrL{env:Env}{nt:Nat}{ops:Array Oper}{o:Oper}{σ:Nat->AV}{ob ob':Nat->Option AObj}(h:OLe ob ob'){r:Res}(he:yv P env nt ops o σ ob=some r):yv P env nt ops o σ ob'=some r:=by
 unfold yv at he ⊢
 split at he
 .rename_i g hg hd
  cases hv:evV P env ob o.op (zy g o.op (o.op.operands.toList.map (aev σ))).1 with
  | none=>rw[hv]at he;cases he
  | some q=>rw[hv]at he;rw[zlC h hv];exact he
 .cases he
theorem zgx{env:Env}{nt:Nat}{ops:Array Oper}{o:Oper}{σ:Nat->AV}{ob ob':Nat->Option AObj}(h:zaf o.op=true):yv P env nt ops o σ ob=yv P env nt ops o σ ob':=by
 unfold yv
 split
 .rw [zlB h]
 .rfl
theorem zEX{s:S}{o:Oper}{xs:List AV}{ok:Option Prop}(h:evE P s o xs=some (s',ok)):
 ∃ hv:AV,s'.sl=zX s.sl o.dst hv/\(∀ σ,evE P { s with sl:=σ } o xs=some ({ s' with sl:=zX σ o.dst hv },ok))/\(zU o.op=true->OLe s.ob s'.ob):=by
 unfold evE at h
 split at h
 .rename_i t x y hop
  split at h
  .rename_i hd
   obtain⟨r,hr,he⟩:=map_some h
   cases he
   refine⟨.any,by rw[hd];rfl,fun σ=>?_,fun hb=>by rw[hop]at hb;cases hb⟩
   unfold evE
   rw[hop]
   dsimp only
   rw[hd]
   dsimp only
   rw[hr];rfl
  .cases h
 .rename_i t x y z hop
  split at h
  .rename_i hd
   obtain⟨r,hr,he⟩:=map_some h
   cases he
   refine⟨.any,by rw[hd];rfl,fun σ=>?_,fun hb=>by rw[hop]at hb;cases hb⟩
   unfold evE
   rw[hop]
   dsimp only
   rw[hd]
   dsimp only
   rw[hr];rfl
  .cases h
 .rename_i args ts hop
  split at h
  .rename_i t tx d x y ht htx hd
   split at h
   .rename_i hu hsz
    obtain⟨r,hr,he⟩:=map_some h
    cases he
    refine⟨.arr d,by rw[hd];rfl,fun σ=>?_,fun hb=>by rw[hop]at hb;cases hb⟩
    unfold evE
    rw[hop]
    dsimp only
    rw[ht,htx,hd]
    dsimp only
    rw[hu,hsz]
    rw[hr];rfl
   .cases h
  .cases h
 .rename_i hn1 hn3 hn2
  split at h
  .rename_i ob ok' d hB hd
   split at h
   .rename_i hu ho
    cases h
    refine⟨ob.handle d,by rw[hd];rfl,fun σ=>?_,fun _ i o' hi=>?_⟩
    .unfold evE
     split
     .rename_i heq;exact absurd heq (hn1 _ _ _)
     .rename_i heq;exact absurd heq (hn3 _ _ _ _)
     .rename_i heq;exact absurd heq (hn2 _ _)
     .rw [hB,hd]
      dsimp only
      rw[hu,ho]
      rfl
    .have:i≠d:=by intro e;subst e;rw[ho]at hi;cases hi
     show upd s.ob d _ i=_
     rw[zh _ _ this];exact hi
   .cases h
  .cases h
theorem zaj{ops:Array Oper}{x y:Oper}(h:x.apart ops y=true):(∀ d,x.dst=some d->d ∉ y.looksAt ops)/\(∀ d,x.dst=some d->y.dst≠some d)/\(∀ d,y.dst=some d->d ∉ x.looksAt ops):=
 Oper.apart_spec h
theorem zbn{env:Env}{nt:Nat}{ops:Array Oper}{o:Oper}{dst:Option Nat}(h:∀ d,dst=some d->d ∉ Oper.looksAt ops o)(σ:Nat->AV)(v:AV)(ob:Nat->Option AObj):
 yv P env nt ops o (zX σ dst v) ob=yv P env nt ops o σ ob:=by
 cases dst with
 | none=>rfl
 | some d=>exact zmJ (h d rfl) σ v ob
theorem zbv{σ:Nat->AV}{d d':Option Nat}(v v':AV)(h:∀ x,d=some x->d'≠some x):zX (zX σ d v) d' v'=zX (zX σ d' v') d v:=by
 cases d with
 | none=>rfl
 | some x=>
  cases d' with
  | none=>rfl
  | some x'=>exact zaM σ v v' (fun e=>h x rfl (by rw[e]))
theorem yY{ops:Array Oper}{o:Oper}{dst:Option Nat}(h:∀ d,dst=some d->d ∉ Oper.looksAt ops o)(σ:Nat->AV)(v:AV):zD ops (zX σ dst v) o=zD ops σ o:=by
 cases dst with
 | none=>rfl
 | some d=>exact znq (h d rfl) σ v
theorem yz{ops:Array Oper}{o:Oper}{dst:Option Nat}(h:∀ d,dst=some d->d ∉ Oper.looksAt ops o)(σ:Nat->AV)(v:AV):
 o.op.operands.toList.map (aev (zX σ dst v))=o.op.operands.toList.map (aev σ):=by
 cases dst with
 | none=>rfl
 | some d=>exact zrt (h d rfl) σ v
theorem za3{nt:Nat}{ops:Array Oper}{o:Oper}{p:List Prop}(h:zdw P nt ops o s=some (s',p)):
 ∃ hv:AV,s'.sl=zX s.sl o.dst hv/\(∀ σ,zD ops σ o=zD ops s.sl o->o.op.operands.toList.map (aev σ)=o.op.operands.toList.map (aev s.sl)->
  zdw P nt ops o { s with sl:=σ }=some ({ s' with sl:=zX σ o.dst hv },p))/\(zU o.op=true->OLe s.ob s'.ob):=by
 unfold zdw at h
 split at h
 .rename_i hg hd
  obtain⟨⟨s2,ok⟩,hE,he⟩:=map_some h
  cases he
  obtain⟨hv,e1,e2,e3⟩:=zEX hE
  refine⟨hv,e1,fun σ h1 h2=>?_,e3⟩
  unfold zdw
  rw[show zD ops ({ s with sl:=σ }:S).sl o=some none from h1.trans hg,hd]
  show(evE P { s with sl:=σ } o (zy none o.op (o.op.operands.toList.map (aev σ))).1).map (fun r=>(r.1,(zy none o.op (o.op.operands.toList.map (aev σ))).2++oks none r.2))=_
  rw[h2,e2 σ]
  rfl
 .cases h
theorem swap{env:Env}{nt:Nat}{ops:Array Oper}{x y:Oper}{s s1 s2:S}{p1 p2:List Prop}(hi:ziD ops y x=true)
 (h1:yh P env nt ops y s=some (s1,p1)) (h2:yh P env nt ops x s1=some (s2,p2)):
 ∃ s1',yh P env nt ops x s=some (s1',p2)/\yh P env nt ops y s1'=some (s2,p1):=by
 unfold ziD at hi
 rw[Bool.and_eq_true]at hi
 obtain⟨hap,hk⟩:=hi
 obtain⟨a1,a2,a3⟩:=zaj hap
 cases ey:zah y.op with
 | false=>
  rw[zP ey]at h1
  obtain⟨ry,hy,he⟩:=map_some h1
  cases he
  cases ex:zah x.op with
  | false=>
   rw[zP ex]at h2
   obtain⟨rx,hx,he⟩:=map_some h2
   cases he
   have hx':yv P env nt ops x s.sl s.ob=some rx:=by
    rw[<-zbn (P:=P) (env:=env) (nt:=nt) a1 s.sl ry.v s.ob];exact hx
   refine⟨zcu s x.dst rx.v,by rw[zP ex,hx'];rfl,?_⟩
   rw[zP ey]
   have:yv P env nt ops y (zX s.sl x.dst rx.v) s.ob=some ry:=by
    rw[zbn (P:=P) a3];exact hy
   show(yv P env nt ops y (zX s.sl x.dst rx.v) s.ob).map _=_
   rw[this]
   simp only[Option.map_some,zcu]
   rw[zbv rx.v ry.v (fun d hd e=>a2 d e hd)]
  | true=>
   rw[zL ex]at h2
   obtain⟨hv,e1,e2,e3⟩:=za3 h2
   have hs:=e2 s.sl (yY a1 s.sl ry.v).symm (yz a1 s.sl ry.v).symm
   refine⟨{ s2 with sl:=zX s.sl x.dst hv },by rw[zL ex];exact hs,?_⟩
   rw[zP ey]
   have hmem:yv P env nt ops y s.sl s2.ob=some ry:=by
    cases hp:zaf y.op with
    | true=>rw[zgx (ob':=s.ob) hp];exact hy
    | false=>
     have hb:zU x.op=true:=by
      rw[ey,ex,hp]at hk
      simpa using hk
     exact zrL (e3 hb) hy
   have:yv P env nt ops y (zX s.sl x.dst hv) s2.ob=some ry:=by
    rw[zbn (P:=P) a3];exact hmem
   show(yv P env nt ops y (zX s.sl x.dst hv) s2.ob).map _=_
   rw[this]
   simp only[Option.map_some,zcu]
   have e4:zX (zX s.sl x.dst hv) y.dst ry.v=s2.sl:=by
    rw[e1]
    show _=zX (zX s.sl y.dst ry.v) x.dst hv
    rw[zbv hv ry.v (fun d hd e=>a2 d e hd)]
   rw[e4]
 | true=>
  have hp:zaf x.op=true:=by
   rw[ey]at hk
   cases hp:zaf x.op with
   | true=>rfl
   | false=>
    have hpy:zaf y.op=false:=by cases hop:y.op <;> rw[hop]at ey <;> first|rfl|(simp only[zah,zU,reduceCtorEq]at ey)
    rw[hp,hpy]at hk
    simp at hk
  have ex:zah x.op=false:=by cases hop:x.op <;> rw[hop]at hp <;> first|rfl|(simp only[zaf,reduceCtorEq]at hp)
  rw[zL ey]at h1
  rw[zP ex]at h2
  obtain⟨rx,hx,he⟩:=map_some h2
  cases he
  obtain⟨hv,e1,e2,_⟩:=za3 h1
  have hx':yv P env nt ops x s.sl s.ob=some rx:=by
   rw[zgx (ob':=s1.ob) hp,<-zbn (P:=P) (env:=env) (nt:=nt) a1 s.sl hv s1.ob,<-e1];exact hx
  refine⟨zcu s x.dst rx.v,by rw[zP ex,hx'];rfl,?_⟩
  rw[zL ey]
  have:=e2 (zX s.sl x.dst rx.v) (yY a3 s.sl rx.v) (yz a3 s.sl rx.v)
  refine this.trans ?_
  simp only[zcu]
  rw[e1,zbv rx.v hv (fun d hd e=>a2 d e hd)]
end Go.Am
/-! Which objects an operation looks at: those that its arguments name. -/
namespace Go.Am
open Go Go.RowKit
variable {P:Program}{γ γ':Nat->Option G}{M M':Mem}{C:Ctx}{s s':S}{a a':Act}{w w':World}
def RLe(γ:Nat->Option G)(ob ob':Nat->Option AObj):Prop:=∀ i,γ i≠none->∀ o,ob i=some o->ob' i=some o
theorem ARels.head{x:AV}{xs:List AV}{vs:List Value}(h:ARels γ M (x::xs) vs):∃ v,ARel γ M x v:=by cases h with|cons h _=>exact⟨_,h⟩
theorem ARels.tail{x:AV}{xs:List AV}{vs:List Value}(h:ARels γ M (x::xs) vs):∃ vs',ARels γ M xs vs':=by cases h with|cons _ h=>exact⟨_,h⟩
theorem zvL{id off:Nat}{v:Value}(h:ARel γ M (.ref id off) v):γ id≠none:=by obtain⟨b,hb,_⟩:=h.ref_inv;rw[hb];simp
theorem zcI{id:Nat}{v:Value}(h:ARel γ M (.arr id) v):γ id≠none:=by obtain⟨_,_,_,_,hb,_⟩:=h.arr_inv;rw[hb];simp
theorem zsu{id:Nat}{v:Value}(h:ARel γ M (.mref id) v):γ id≠none:=by cases h with|mref _ b hb=>rw[hb];simp
theorem zsv{id i j:Nat}{v:Value}(h:ARel γ M (.aptr id i j) v):γ id≠none:=by obtain⟨_,_,_,_,hb,_⟩:=h.aptr_inv;rw[hb];simp
theorem yp{ob ob':Nat->Option AObj}(h:RLe γ ob ob'){x z:AV}{v:Value}(hx:ARel γ M x v)(hs:zbT ob x=some z):zbT ob' x=some z:=by
 cases x with
 | arr id=>
  dsimp only[zbT]at hs ⊢
  cases ho:ob id with
  | none=>rw[ho]at hs;cases hs
  | some o=>rw[ho]at hs;rw[h id (zcI hx) o ho];exact hs
 | _=>exact hs
theorem zcc{α β:Type}{f g:α->Option β}{q:α->Prop}(h:∀ x y,q x->f x=some y->g x=some y):∀ {l:List α} {r:List β},(∀ x ∈ l,q x)->zx f l=some r->zx g l=some r:=by
 intro l
 induction l with
 | nil=>intro r _ hr;exact hr
 | cons x l ih=>
  intro r hq hr
  simp only[zx]at hr ⊢
  cases hx:f x with
  | none=>rw[hx]at hr;cases hr
  | some y=>
   cases hl:zx f l with
   | none=>rw[hx,hl]at hr;cases hr
   | some ys=>rw[hx,hl]at hr;rw[h x y (hq x (by simp)) hx,ih (fun z hz=>hq z (by simp[hz])) hl];exact hr
theorem zBt{xs:List AV}{vs:List Value}(h:ARels γ M xs vs):∀ x ∈ xs,∃ v,ARel γ M x v:=by
 induction h with
 | nil=>intro x hx;cases hx
 | cons h _ ih=>
  intro x hx
  rcases List.mem_cons.1 hx with e|e
  .rw [e];exact⟨_,h⟩
  .exact ih x e
theorem zeT{cs:List AV}{p:Nat->Value}(h:∀ i,i<cs.length->ARel γ M (cs.getD i .any) (p i)):∀ x ∈ cs,∃ v,ARel γ M x v:=by
 intro x hx
 obtain⟨i,hi,rfl⟩:=List.mem_iff_getElem.1 hx
 have:=h i hi
 rw[List.getD_eq_getElem?_getD,List.getElem?_eq_getElem hi]at this
 exact⟨_,this⟩
theorem zr5{ob ob':Nat->Option AObj}(h:RLe γ ob ob'){x z:AV}{v:Value}(hx:ARel γ M x v)(hs:zeN ob x=some z):zeN ob' x=some z:=by
 cases x with
 | agg cs=>
  obtain⟨zs,hz,he⟩:=map_some hs
  cases he
  obtain⟨vs,rfl,hsz,hr⟩:=hx.agg_inv
  show(zx (zbT ob') cs).map AV.agg=_
  rw[zcc (q:=fun x=>∃ v,ARel γ M x v) (fun x y ⟨v,hv⟩=>yp h hv) (zeT hr) hz];rfl
 | clo fn fs cs=>
  simp only[zeN]at hs ⊢
  split at hs
  .rename_i fs' cs' h1 h2
   cases hx with
   | clo _ _ _ vf vc hf hc g1 g2=>
    rw[zcc (q:=fun x=>∃ v,ARel γ M x v) (fun x y ⟨v,hv⟩=>yp h hv) (zeT g1) h1,zcc (q:=fun x=>∃ v,ARel γ M x v) (fun x y ⟨v,hv⟩=>yp h hv) (zeT g2) h2];exact hs
  .cases hs
 | any=>exact yp h (x:=.any) hx hs
 | p q=>exact yp h (x:=.p q) hx hs
 | ref i j=>exact yp h (x:=.ref i j) hx hs
 | arr i=>exact yp h (x:=.arr i) hx hs
 | aptr i j k=>exact yp h (x:=.aptr i j k) hx hs
 | mref i=>exact yp h (x:=.mref i) hx hs
 | tup l=>exact yp h (x:=.tup l) hx hs
 | gd c y=>exact yp h (x:=.gd c y) hx hs
theorem zwj{ob ob':Nat->Option AObj}(h:RLe γ ob ob'){op:Op}{xs:List AV}{vs:List Value}(hx:ARels γ M xs vs){r:AV×Option Prop}(he:evL P ob op xs=some r):evL P ob' op xs=some r:=by
 cases op <;> simp only[evL,reduceCtorEq]at he ⊢
 case load t x=>
  unfold zct at he ⊢
  split at he
  .rename_i id off
   obtain⟨v,hv⟩:=hx.head
   cases ho:ob id with
   | none=>rw[ho]at he;cases he
   | some o=>rw[ho]at he;rw[h id (zvL hv) o ho];exact he
  .exact he
  .rename_i id i j
   obtain⟨v,hv⟩:=hx.head
   cases ho:ob id with
   | none=>rw[ho]at he;cases he
   | some o=>rw[ho]at he;rw[h id (zsv hv) o ho];exact he
  .cases he
 case lookup t x i ck=>
  unfold zfc at he ⊢
  split at he
  .rename_i id k
   obtain⟨v,hv⟩:=hx.head
   cases ho:ob id with
   | none=>rw[ho]at he;revert he;cases zsx P t <;> intro he <;> cases he
   | some o=>rw[ho]at he;rw[h id (zsu hv) o ho];exact he
  .cases he
 case indexAddr t x i=>
  unfold yW at he ⊢
  split at he
  .rename_i id kk i'
   obtain⟨v,hv⟩:=hx.head
   cases ho:ob id with
   | none=>rw[ho]at he;revert he;cases zaS P t <;> intro he <;> cases he
   | some o=>rw[ho]at he;rw[h id (zcI hv) o ho];exact he
  .cases he
 case convert sT d x=>
  unfold zhF at he ⊢
  split at he
  .rename_i id
   obtain⟨v,hv⟩:=hx.head
   cases ho:ob id with
   | none=>rw[ho]at he;cases he
   | some o=>rw[ho]at he;rw[h id (zcI hv) o ho];exact he
  .exact he
  .exact he
  .cases he
 case call c=>
  obtain⟨callee,args,ts⟩:=c
  cases callee with
  | value f=>cases he
  | invoke r m=>cases he
  | builtin b=>
   cases b <;> dsimp only at he ⊢ <;> first|(cases he;done)|skip
   cases hts:ts[0]? with
   | none=>rw[hts]at he;cases he
   | some t=>
    rw[hts]at he
    dsimp only at he ⊢
    unfold ziL at he ⊢
    split at he
    .rename_i id
     obtain⟨v,hv⟩:=hx.head
     cases ho:ob id with
     | none=>rw[ho]at he;cases he
     | some o=>rw[ho]at he;rw[h id (zcI hv) o ho];exact he
    .cases he
theorem zwm{env:Env}{ob ob':Nat->Option AObj}(h:RLe γ ob ob'){op:Op}{xs:List AV}{vs:List Value}(hx:ARels γ M xs vs){r:AV×Option Prop}(he:evC env ob op xs=some r):evC env ob' op xs=some r:=by
 unfold evC at he ⊢
 split at he
 .split at he
  .rename_i f fs cs ys
   have hall:∀ x ∈ fs++(ys++cs),∃ v,ARel γ M x v:=by
    obtain⟨v,hv⟩:=hx.head
    obtain⟨vs',ht⟩:=hx.tail
    cases hv with
    | clo _ _ _ vf vc hf hc g1 g2=>
     intro x hx
     rcases List.mem_append.1 hx with h1|h1
     .exact zeT g1 x h1
     .rcases List.mem_append.1 h1 with h2|h2
      .exact zBt ht x h2
      .exact zeT g2 x h2
   cases hz:zx (zeN ob) (fs++(ys++cs))with
   | none=>rw[hz]at he;cases he
   | some zs=>rw[hz]at he;rw[zcc (q:=fun x=>∃ v,ARel γ M x v) (fun x y ⟨v,hv⟩=>zr5 h hv) hall hz];exact he
  .cases he
 .cases he
theorem zwe{env:Env}{ob ob':Nat->Option AObj}(h:RLe γ ob ob'){op:Op}{xs:List AV}{vs:List Value}(hx:ARels γ M xs vs){r:AV×Option Prop}(he:evV P env ob op xs=some r):evV P env ob' op xs=some r:=by
 unfold evV at he ⊢
 cases h1:evP P op xs with
 | some q=>rw[h1]at he;exact he
 | none=>
  rw[h1]at he
  dsimp only at he ⊢
  cases h2:evL P ob op xs with
  | some q=>rw[h2]at he;rw[zwj h hx h2];exact he
  | none=>
   rw[h2]at he
   dsimp only at he
   split at he
   .rename_i t ps
    have:evL P ob' (.build t ps) xs=none:=rfl
    rw[this];exact he
   .rename_i hne
    have hc:∃ f args ts,op=.call ⟨.value f,args,ts⟩:=by
     unfold evC at he
     split at he
     .exact ⟨_,_,_,rfl⟩
     .cases he
    obtain⟨f,args,ts,rfl⟩:=hc
    have:evL P ob' (.call ⟨.value f,args,ts⟩) xs=none:=rfl
    rw[this]
    exact zwm h hx he
end Go.Am
/-! More pairs of operations of which neither sees the other. -/
namespace Go.Am
open Go Go.RowKit
variable {P:Program}{γ γ':Nat->Option G}{M M':Mem}{C:Ctx}{s s':S}{a a':Act}{w w':World}
theorem zry{ob ob':Nat->Option AObj}{x:AV}(h:∀ i,(x=.arr i)->∀ o,ob i=some o->ob' i=some o){e:TypeId}{r:Option Nat×Option AObj}(he:zhX ob e x=some r):zhX ob' e x=some r:=by
 unfold zhX at he ⊢
 split at he
 .exact he
 .rename_i id
  cases ho:ob id with
  | none=>rw[ho]at he;cases he
  | some o=>rw[ho]at he;rw[h id rfl o ho];exact he
 .cases he
theorem zjI{ob ob':Nat->Option AObj}{x:AV}(h:∀ i,(x=.arr i)->∀ o,ob i=some o->ob' i=some o){t:TypeId}{r:List UInt8}(he:znS P ob t x=some r):znS P ob' t x=some r:=by
 unfold znS at he ⊢
 split at he
 .exact he
 .exact he
 .exact he
 .rename_i id
  cases ho:ob id with
  | none=>rw[ho]at he;cases he
  | some o=>rw[ho]at he;rw[h id rfl o ho];exact he
 .cases he
theorem zjG{ob ob':Nat->Option AObj}{x:AV}(h:∀ i,(x=.arr i)->∀ o,ob i=some o->ob' i=some o){t:TypeId}{k:Nat}{r:Rows}(he:znR P ob t k x=some r):znR P ob' t k x=some r:=by
 unfold znR at he ⊢
 split at he
 .exact he
 .exact he
 .rename_i id
  cases ho:ob id with
  | none=>rw[ho]at he;cases he
  | some o=>rw[ho]at he;rw[h id rfl o ho];exact he
 .cases he
theorem zfd{ob ob':Nat->Option AObj}{t tx:TypeId}{x y:AV}(hx:∀ i,(x=.arr i)->∀ o,ob i=some o->ob' i=some o)(hy:∀ i,(y=.arr i)->∀ o,ob i=some o->ob' i=some o)
 {r:AObj×Option Nat×Option Prop} (he:zaz P ob t tx [x,y]=some r):zaz P ob' t tx [x,y]=some r:=by
 unfold zaz at he ⊢
 dsimp only at he ⊢
 cases hS:zcS P t with
 | none=>rw[hS]at he;cases he
 | some e=>
  rw[hS]at he
  dsimp only at he ⊢
  cases hb:zhX ob e x with
  | none=>
   rw[hb]at he
   split at he
   .rename_i h4;cases h4
   .cases he
  | some bb=>
   rw[zry hx hb]
   rw[hb]at he
   split at he
   .rename_i k' b' z old bo h1 h2 h3 h4
    cases h4
    split at he
    .split at he
     .split at he
      .rename_i hsrc;rw[zjI hy hsrc];exact he
      .rename_i hsrc;rw[zjI hy hsrc];exact he
      .cases he
     .split at he
      .rename_i hsrc;rw[zjG hy hsrc];exact he
      .rename_i hsrc;rw[zjG hy hsrc];exact he
      .cases he
    .cases he
   .cases he
end Go.Am
/-! The wider independence: births and appends among operations that yield values, and among births. -/
namespace Go.Am
open Go Go.RowKit
variable {P:Program}{γ γ':Nat->Option G}{M M':Mem}{C:Ctx}{s s':S}{a a':Act}{w w':World}
def zaW:Op->Bool
 | .call ⟨.builtin .append,_,_⟩=>true
 | _=>false
def zc2(op:Op):Bool:=zU op||zaW op
def zA(s:S)(o:Oper):List AV:=o.op.operands.toList.map (aev s.sl)
structure zbF(s:S)(o:Oper):Prop where
 free:∀ d,s.us d=false->s.ob d=none
 rel:All (zy none o.op (zA s o)).2->∃ γ M vs,ARels γ M (zy none o.op (zA s o)).1 vs/\∀ d,s.us d=false->γ d=none
theorem St.sem(h:St C s a w)(o:Oper):zbF s o:=by
 obtain⟨γ,M,h⟩:=h
 refine⟨fun d hd=>?_,fun hp=>⟨γ,M,_,zdo (g:=none) trivial (ARels.map (zdz h.sl) _) hp,fun d hd=>h.us d hd⟩⟩
 cases ho:s.ob d with
 | none=>rfl
 | some o'=>
  obtain⟨g,hg⟩:=(h.ob d o' ho).ghost
  rw[h.us d hd]at hg;cases hg
theorem zb5{nt:Nat}{ops:Array Oper}{o:Oper}{p:List Prop}(hm:zc2 o.op=true)(h:zdw P nt ops o s=some (s',p)):
 zD ops s.sl o=some none/\∃ d,o.dst=some d/\yu nt (some d)=true/\s.us d=false/\
  ((zU o.op=true/\∃ ob ok,evB P o.op (zy none o.op (zA s o)).1=some (ob,ok)/\s.ob d=none/\s'=yq s d ob/\p=(zy none o.op (zA s o)).2++oks none ok)\/
   (∃ as ts t tx x y r, o.op = .call ⟨.builtin .append, as, ts⟩ ∧ ts[0]? = some t ∧ ts[1]? = some tx ∧ ts.size = 2 ∧ (zy none o.op (zA s o)).1 = [x, y] ∧ zaz P s.ob t tx [x, y] = some r ∧
      s'=yO s d r.2.1 r.1/\p=(zy none o.op (zA s o)).2++oks none r.2.2)):=by
 unfold zdw at h
 split at h
 .rename_i hg hd
  obtain⟨⟨s2,ok⟩,hE,he⟩:=map_some h
  cases he
  refine⟨hg,?_⟩
  unfold evE at hE
  split at hE
  .rename_i hop;rw[hop]at hm;cases hm
  .rename_i hop;rw[hop]at hm;cases hm
  .rename_i as ts hop
   split at hE
   .rename_i t tx d x y ht htx hdst hxs
    split at hE
    .rename_i hu hsz
     obtain⟨r,hr,he⟩:=map_some hE
     cases he
     exact⟨d,hdst,by rw[<-hdst];exact hd,hu,.inr ⟨as,ts,t,tx,x,y,r,hop,ht,htx,hsz,hxs,hr,rfl,rfl⟩⟩
    .cases hE
   .cases hE
  .rename_i hn1 hn2
   split at hE
   .rename_i ob ok' d hB hdst
    split at hE
    .rename_i hu ho
     cases hE
     refine⟨d,hdst,by rw[<-hdst];exact hd,hu,.inl ⟨?_,ob,ok,hB,ho,rfl,rfl⟩⟩
     unfold zc2 at hm
     rw[Bool.or_eq_true]at hm
     rcases hm with hm|hm
     .exact hm
     .exfalso
      unfold zaW at hm
      split at hm
      .rename_i as ts hop;exact hn2 as ts hop
      .cases hm
    .cases hE
   .cases hE
 .cases h
theorem zfe{nt:Nat}{ops:Array Oper}{o:Oper}{d:Nat}{ob:AObj}{ok:Option Prop}(hg:zD ops s.sl o=some none)(hd:o.dst=some d)(hdk:yu nt (some d)=true)(hu:s.us d=false)
 (hb:zU o.op=true) (hB:evB P o.op (zy none o.op (zA s o)).1=some (ob,ok)) (ho:s.ob d=none):
 zdw P nt ops o s=some (yq s d ob,(zy none o.op (zA s o)).2++oks none ok):=by
 unfold zdw
 rw[hg,hd,hdk]
 show(evE P s o (zy none o.op (zA s o)).1).map _=_
 unfold evE
 split
 .rename_i hop;rw[hop]at hb;cases hb
 .rename_i hop;rw[hop]at hb;cases hb
 .rename_i hop;rw[hop]at hb;cases hb
 .rw [hB,hd]
  dsimp only
  rw[hu,ho]
  rfl
theorem zhH{nt:Nat}{ops:Array Oper}{o:Oper}{d:Nat}{as:Array Operand}{ts:Array TypeId}{t tx:TypeId}{x y:AV}{r:AObj×Option Nat×Option Prop}(hg:zD ops s.sl o=some none)(hd:o.dst=some d)
 (hdk:yu nt (some d)=true) (hu:s.us d=false) (hop:o.op=.call ⟨.builtin .append,as,ts⟩) (h1:ts[0]?=some t) (h2:ts[1]?=some tx) (h3:ts.size=2)
 (hxs:(zy none o.op (zA s o)).1=[x,y]) (hr:zaz P s.ob t tx [x,y]=some r):
 zdw P nt ops o s=some (yO s d r.2.1 r.1,(zy none o.op (zA s o)).2++oks none r.2.2):=by
 unfold zdw
 rw[hg,hd,hdk]
 show(evE P s o (zy none o.op (zA s o)).1).map _=_
 rw[hxs]
 unfold evE
 rw[hop]
 simp only
 rw[h1,h2,hd]
 simp only[hu,h3,hr]
 unfold zA
 rw[hop]
 rfl
theorem zbL{op:Op}(h:zc2 op=true):zah op=true:=by
 unfold zc2 at h
 rw[Bool.or_eq_true]at h
 rcases h with h|h
 .cases op <;> first|rfl|(simp only[zU,reduceCtorEq]at h)
 .unfold zaW at h
  split at h
  .rfl
  .cases h
theorem zoN{ops:Array Oper}{o:Oper}(h:o.guard=none)(σ:Nat->AV):zD ops σ o=some none:=by unfold zD;rw[h]
theorem zqn{d:Nat}{old:Option Nat}{o:AObj}{ob:Nat->Option AObj}(hd:γ d=none):RLe γ (upd (zba ob old) d (some o)) ob:=by
 intro i hi o' ho
 have hne:i≠d:=by intro e;subst e;exact hi hd
 rw[zh _ _ hne]at ho
 cases old with
 | none=>exact ho
 | some id=>
  unfold zba at ho
  by_cases e:i=id
  .subst e;dsimp only at ho;rw[zc]at ho;cases ho
  .dsimp only at ho;rw[zh _ _ e]at ho;exact ho
theorem zA4{env:Env}{nt:Nat}{ops:Array Oper}{x y:Oper}{s s1 s2:S}{p1 p2:List Prop}(hap:Oper.apart ops y x=true)(hy:zc2 y.op=true)(ex:zah x.op=false)(hxg:x.guard=none)(hsem:zbF s x)
 (h1:yh P env nt ops y s=some (s1,p1)) (h2:yh P env nt ops x s1=some (s2,p2)) (hp:All p2):
 ∃ s1',yh P env nt ops x s=some (s1',p2)/\yh P env nt ops y s1'=some (s2,p1):=by
 obtain⟨a1,a2,a3⟩:=zaj hap
 rw[zL (zbL hy)]at h1
 rw[zP ex]at h2
 obtain⟨rx,hx,he⟩:=map_some h2
 cases he
 obtain⟨hv,e1,e2,_⟩:=za3 h1
 obtain⟨hg,d,hdst,hdk,hu,hform⟩:=zb5 hy h1
 have hargs:zA s1 x=zA s x:=by unfold zA;rw[e1];exact yz a1 s.sl hv
 have hback:∀ γ:Nat->Option G,γ d=none->RLe γ s1.ob s.ob:=by
  intro γ hγ
  rcases hform with⟨_,o,ok,_,ho,hs1,_⟩|⟨_,_,_,_,_,_,r,_,_,_,_,_,_,hs1,_⟩
  .rw [hs1];exact zqn (old:=none) hγ
  .rw [hs1];exact zqn hγ
 have hx':yv P env nt ops x s.sl s.ob=some rx:=by
  unfold yv at hx ⊢
  rw[zoN hxg]at hx ⊢
  have ea:x.op.operands.toList.map (aev s1.sl)=x.op.operands.toList.map (aev s.sl):=hargs
  rw[ea]at hx
  split at hx
  .rename_i g hg1 hd1
   cases hg1
   cases hev:evV P env s1.ob x.op (zy none x.op (x.op.operands.toList.map (aev s.sl))).1 with
   | none=>rw[hev]at hx;cases hx
   | some q=>
    rw[hev]at hx
    obtain⟨v,ok⟩:=q
    cases hx
    obtain⟨γ,M,vs,hrel,hfree⟩:=hsem.rel (All.append hp).1
    have hrel':ARels γ M (zy none x.op (x.op.operands.toList.map (aev s.sl))).1 vs:=hrel
    rw[zwe (hback γ (hfree d hu)) hrel' hev]
  .cases hx
 refine⟨zcu s x.dst rx.v,by rw[zP ex,hx'];rfl,?_⟩
 rw[zL (zbL hy)]
 have:=e2 (zX s.sl x.dst rx.v) (yY a3 s.sl rx.v) (yz a3 s.sl rx.v)
 refine this.trans ?_
 simp only[zcu]
 rw[e1,zbv rx.v hv (fun d hd e=>a2 d e hd)]
end Go.Am
/-! Births among births and appends. -/
namespace Go.Am
open Go Go.RowKit
variable {P:Program}{γ γ':Nat->Option G}{M M':Mem}{C:Ctx}{s s':S}{a a':Act}{w w':World}
theorem zcL{op:Op}(h:zU op=true):zc2 op=true:=by unfold zc2;rw[h];rfl
theorem zq7{ob:Nat->Option AObj}{old:Option Nat}{d:Nat}{o:Option AObj}(h:old≠some d):zba (upd ob d o) old=upd (zba ob old) d o:=by
 cases old with
 | none=>rfl
 | some i=>
  have:i≠d:=fun e=>h (by rw[e])
  unfold zba
  dsimp only
  exact zaM ob _ _ (fun e=>this e.symm)
theorem zCx{ob:Nat->Option AObj}{old:Option Nat}{i:Nat}(h:old≠some i):zba ob old i=ob i:=by
 cases old with
 | none=>rfl
 | some j=>exact zh _ _ (fun e=>h (by rw[e]))
theorem zwN{ob:Nat->Option AObj}{e:TypeId}{x:AV}{i:Nat}{bo:Option AObj}(h:zhX ob e x=some (some i,bo)):x=.arr i/\ob i≠none:=by
 unfold zhX at h
 split at h
 .cases h
 .rename_i id
  cases ho:ob id with
  | none=>rw[ho]at h;cases h
  | some o=>
   rw[ho]at h
   dsimp only at h
   unfold yI at h
   split at h
   .cases h;exact⟨rfl,by rw[ho];simp⟩
   .cases h
 .cases h
theorem zet{ob:Nat->Option AObj}{t tx:TypeId}{x y:AV}{r:AObj×Option Nat×Option Prop}(h:zaz P ob t tx [x,y]=some r){i:Nat}(hi:r.2.1=some i):x=.arr i/\ob i≠none:=by
 unfold zaz at h
 dsimp only at h
 split at h
 .rename_i e hS
  split at h
  .rename_i k' b' z old bo h1 h2 h3 h4
   have:r.2.1=old:=by
    split at h
    .split at h
     .split at h
      .cases h;rfl
      .cases h;rfl
      .cases h
     .split at h
      .cases h;rfl
      .split at h
       .cases h;rfl
       .cases h
      .cases h
    .cases h
   rw[this]at hi
   rw[hi]at h4
   exact zwN h4
  .cases h
 .cases h
theorem zhS{op:Op}{as:Array Operand}{ts:Array TypeId}(h:zU op=true)(e:op=.call ⟨.builtin .append,as,ts⟩):False:=by rw[e]at h;cases h
theorem zA5{env:Env}{nt:Nat}{ops:Array Oper}{x y:Oper}{s s1 s2:S}{p1 p2:List Prop}(hap:Oper.apart ops y x=true)(hy:zc2 y.op=true)(hx:zU x.op=true)(hsem:zbF s x)
 (h1:yh P env nt ops y s=some (s1,p1)) (h2:yh P env nt ops x s1=some (s2,p2)):
 ∃ s1',yh P env nt ops x s=some (s1',p2)/\yh P env nt ops y s1'=some (s2,p1):=by
 obtain⟨a1,a2,a3⟩:=zaj hap
 rw[zL (zbL hy)]at h1
 rw[zL (zbL (zcL hx))]at h2
 obtain⟨hv,e1,_,_⟩:=za3 h1
 obtain⟨hg,d,hdst,hdk,hu,hform⟩:=zb5 hy h1
 obtain⟨hgx,dx,hdstx,hdkx,hux,hformx⟩:=zb5 (zcL hx) h2
 have hne:dx≠d:=fun e=>a2 d hdst (by rw[hdstx,e])
 have hargs:zA s1 x=zA s x:=by unfold zA;rw[e1];exact yz a1 s.sl hv
 have hgx':zD ops s.sl x=some none:=by rw[<-hgx,e1];exact(yY a1 s.sl hv).symm
 rcases hformx with⟨_,ox,okx,hB,hox,hs2,hp2⟩|⟨_,_,_,_,_,_,_,hop,_⟩
 .rw [hargs]at hB hp2
  have hus:s.us dx=false:=by
   rcases hform with⟨_,o,ok,_,ho,hs1,_⟩|⟨_,_,_,_,_,_,r,_,_,_,_,_,_,hs1,_⟩ <;>
    (rw[hs1]at hux;exact(zh s.us true hne).symm.trans hux)
  have hob:s.ob dx=none:=hsem.free dx hus
  refine⟨yq s dx ox,?_,?_⟩
  .rw [zL (zbL (zcL hx)),zfe hgx' hdstx hdkx hus hx hB hob,hp2]
  .rw [zL (zbL hy)]
   have a3':∀ d,some dx=some d->d ∉ Oper.looksAt ops y:=fun d hd=>a3 d (by rw[hdstx];exact hd)
   have hgy:zD ops (yq s dx ox).sl y=some none:=(yY (dst:=some dx) a3' s.sl _).trans hg
   have hargy:zA (yq s dx ox) y=zA s y:=yz (dst:=some dx) a3' s.sl _
   have huy:(yq s dx ox).us d=false:=(zh s.us true (fun e=>hne e.symm)).trans hu
   rcases hform with⟨hb,o,ok,hBy,ho,hs1,hp1⟩|⟨as,ts,t,tx,x',y',r,hop,ht,htx,hsz,hxs,hr,hs1,hp1⟩
   .rw [zfe hgy hdst hdk huy hb (by rw[hargy];exact hBy) ((zh s.ob _ (fun e=>hne e.symm)).trans ho),hargy,hs2,hs1,hp1]
    unfold yq
    dsimp only
    rw[zaM s.sl _ _ hne,zaM s.ob _ _ hne,zaM s.us _ _ hne]
   .have hr':zaz P (yq s dx ox).ob t tx [x',y']=some r:=by
     have k:∀ i o,s.ob i=some o->(yq s dx ox).ob i=some o:=by
      intro i o hi
      have:i≠dx:=by intro e;rw[e,hob]at hi;cases hi
      exact(zh s.ob _ this).trans hi
     exact zfd (fun i _=>k i) (fun i _=>k i) hr
    have hold:r.2.1≠some dx:=fun e=>(zet hr e).2 hob
    rw[zhH hgy hdst hdk huy hop ht htx hsz (by rw[hargy];exact hxs) hr',hargy,hs2,hs1,hp1]
    unfold yq yO
    dsimp only
    rw[zaM s.sl _ _ hne,zq7 hold,zaM (zba s.ob r.2.1) _ _ hne,zaM s.us _ _ hne]
 .exact (zhS hx hop).elim
end Go.Am
/-! The rule for regions whose order is open. -/
namespace Go.Am
open Go Go.RowKit
variable {P:Program}{C:Ctx}{s s':S}{a a':Act}{w w':World}
def znB(acc:List Nat):List Edge->Nat
 | []=>0
 | e::r=>(if Region.binds .any e then(1 <<< e.on)||| acc.getD e.on 0 else 0)||| znB acc r
def zhn:List Oper->List Nat->List Nat
 | [],acc=>acc
 | o::r,acc=>zhn r (acc++[znB acc o.after.toList])
def zs9(ops:Array Oper):Bool:=
 (List.range ops.size).all fun x=>(List.range x).all fun y=>
  ((zhn ops.toList []).getD x 0).testBit y||(match ops[y]?,ops[x]? with
   | some oy,some ox=>ziD ops oy ox
   | _,_=>false)
def zC7(ops:Array Oper)(listed:Nat->Bool)(x:Nat):Prop:=∀ o,ops[x]?=some o->∀ e ∈ o.after,Region.binds .any e=true->listed e.on=true
def Closed(ops:Array Oper)(listed:Nat->Bool):Prop:=∀ x,listed x=true->zC7 ops listed x
def ztC(ops:Array Oper)(x m:Nat):Prop:=∀ listed,Closed ops listed->zC7 ops listed x->∀ y,m.testBit y=true->listed y=true
theorem zq1{ops:Array Oper}{acc:List Nat}(hacc:∀ x m,acc[x]?=some m->ztC ops x m):∀ (l:List Edge) (listed:Nat->Bool),Closed ops listed->
 (∀ e ∈ l,Region.binds .any e=true->listed e.on=true)->∀ y,(znB acc l).testBit y=true->listed y=true
 | [],_,_,_,y,h=>by simp[znB]at h
 | e::r,listed,hc,hd,y,h=>by
  simp only[znB,Nat.testBit_or,Bool.or_eq_true]at h
  rcases h with h|h
  .split at h
   .rename_i hb
    have he:=hd e (List.mem_cons_self ..) hb
    simp only[Nat.testBit_or,Bool.or_eq_true]at h
    rcases h with h|h
    .rw [Nat.one_shiftLeft,Nat.testBit_two_pow]at h
     rw[<-of_decide_eq_true h];exact he
    .cases hx:acc[e.on]? with
     | none=>rw[List.getD_eq_getElem?_getD,hx]at h;simp at h
     | some m=>
      rw[List.getD_eq_getElem?_getD,hx]at h
      exact hacc _ _ hx listed hc (hc _ he) y h
   .simp at h
  .exact zq1 hacc r listed hc (fun e' he'=>hd e' (List.mem_cons_of_mem _ he')) y h
theorem zhm{ops:Array Oper}:∀ (l:List Oper) (acc:List Nat),(∀ i o,l[i]?=some o->ops[acc.length+i]?=some o)->(∀ x m,acc[x]?=some m->ztC ops x m)->
 ∀ x m,(zhn l acc)[x]?=some m->ztC ops x m
 | [],acc,_,h2,x,m,hm=>h2 x m hm
 | o::r,acc,h1,h2,x,m,hm=>by
  refine zhm r (acc++[znB acc o.after.toList]) (fun i o' ho=>?_) (fun x' m' hx=>?_) x m hm
  .have:=h1 (i+1) o' (by simpa using ho)
   simp only[List.length_append,List.length_singleton]
   rw[show acc.length+1+i=acc.length+(i+1) by omega];exact this
  .rw [List.getElem?_append]at hx
   split at hx
   .exact h2 x' m' hx
   .rename_i hlt
    have hx0:x'-acc.length=0:=by
     cases hk:x'-acc.length with
     | zero=>rfl
     | succ k=>rw[hk]at hx;simp at hx
    rw[hx0]at hx
    simp only[List.getElem?_cons_zero,Option.some.injEq]at hx
    subst hx
    intro listed hc hd y hy
    have ho:=h1 0 o rfl
    rw[show acc.length+0=x' by omega]at ho
    exact zq1 h2 o.after.toList listed hc (fun e he hb=>hd o ho e (by simpa using he) hb) y hy
theorem zgk{l:List Nat}(hs:l.Pairwise (·<·)){x:Nat}(hx:x ∈ l):∃ l1 l2,l=l1++x::l2/\∀ y ∈ l1,y<x:=by
 obtain⟨l1,l2,rfl⟩:=List.append_of_mem hx
 refine⟨l1,l2,rfl,fun y hy=>?_⟩
 exact(List.pairwise_append.1 hs).2.2 y hy x (List.mem_cons_self ..)
def lsF(listed:Array Bool):Nat->Bool:=fun i=>listed.getD i false
end Go.Am
/-! Functions that change memory that is handed to them. -/
namespace Go.Am
open Go Go.RowKit
variable {P:Program}{γ γ':Nat->Option G}{M M':Mem}{C:Ctx}{s s':S}{a a':Act}{w w':World}
structure ziZ(γ:Nat->Option G)(M:Mem)(w:World)(obF:Nat->Option AObj)(L:Nat->Prop):Prop where
 ob:∀ id o,obF id=some o->OM γ M w id o
 sep:∀ id id' g g' b,obF id≠none->obF id'≠none->γ id=some g->γ id'=some g'->g.blk=some b->g'.blk=some b->id=id'
 lo:∀ id g b,obF id≠none->γ id=some g->g.blk=some b->L b
theorem zCX{obF:Nat->Option AObj}{L:Nat->Prop}{o:List (Nat×AObj)}(ids:List (Nat×Nat))(ren:Nat->Option Nat)
 (hids:o.map (·.1)=ids.map (·.1))
 (ho:All (o.map fun p=>zmK ids p.2/\match ren p.1 with
  | some old=>∃ ob0,obF old=some ob0/\zi3 ren ob0 p.2
  | none=>∀ k,ze p.1 ids=some k->ziP k p.2))
 (hinj:∀ i j old,ren i=some old->ren j=some old->(ze i ids).isSome=true->(ze j ids).isSome=true->i=j)
 (h:ziZ γ M w obF L):ziZ (zay γ ids ren) M w (fun i=>ze i o) L:=by
 have hkeys:∀ i,(ze i o).isSome=(ze i ids).isSome:=by
  have:∀ (o:List (Nat×AObj)) (ids:List (Nat×Nat)),o.map (·.1)=ids.map (·.1)->∀ i,(ze i o).isSome=(ze i ids).isSome:=by
   intro o
   induction o with
   | nil=>intro ids he i;cases ids with|nil=>rfl|cons _ _=>cases he
   | cons p o ih=>
    intro ids he i
    cases ids with
    | nil=>cases he
    | cons q ids=>
     simp only[List.map_cons,List.cons.injEq]at he
     unfold ze
     rw[he.1]
     cases Nat.beq i q.1 with
     | true=>rfl
     | false=>exact ih ids he.2 i
  exact this o ids hids
 have hob:∀ i ob,ze i o=some ob->zmK ids ob/\match ren i with
  | some old=>∃ ob0,obF old=some ob0/\zi3 ren ob0 ob
  | none=>∀ k,ze i ids=some k->ziP k ob:=fun i ob hi=>zwW ho _ (zaD hi)
 have hγ:∀ i g,zay γ ids ren i=some g->(∃ old,ren i=some old/\γ old=some g/\(ze i ids).isSome=true)\/∃ k,g=.arr none k 0 0:=by
  intro i g hg
  unfold zay at hg
  cases hl':ze i ids with
  | none=>rw[hl']at hg;cases hg
  | some k=>
   rw[hl']at hg
   cases hr:ren i with
   | none=>rw[hr]at hg;cases hg;exact .inr ⟨k,rfl⟩
   | some old=>rw[hr]at hg;exact .inl ⟨old,rfl,hg,rfl⟩
 refine⟨?_,?_,?_⟩
 .intro id ob hi
  have hi':ze id o=some ob:=hi
  obtain⟨hu,hc⟩:=hob id ob hi'
  have hsome:(ze id ids).isSome=true:=by rw[<-hkeys,hi'];rfl
  obtain⟨k,hk⟩:=Option.isSome_iff_exists.1 hsome
  cases hr:ren id with
  | none=>
   rw[hr]at hc
   have hem:=hc k hk
   have hg:zay γ ids ren id=some (.arr none k 0 0):=by unfold zay;simp only[hk,hr]
   cases ob with
   | cells cs=>exact hem.elim
   | bcv _ _=>exact hem.elim
   | bldr _ _=>exact hem.elim
   | raw _=>exact hem.elim
   | mp _ _=>exact hem.elim
   | barr e mu l'=>
    obtain⟨rfl,rfl⟩:=hem
    exact⟨none,0,hg,zcM M w e mu 1⟩
   | larr e mu k' R=>
    obtain⟨rfl,h0⟩:=hem
    exact⟨none,0,[],by rw[h0];exact hg,(fun i j hi _=>by omega),by rw[h0];exact zcM M w e mu k⟩
  | some old=>
   rw[hr]at hc
   obtain⟨ob0,ho0,hcov⟩:=hc
   have hom:=h.ob old ob0 ho0
   have hg:∀ g,γ old=some g->zay γ ids ren id=some g:=fun g hg=>by unfold zay;simp only[hk,hr];exact hg
   cases hcov with
   | refl_b e mu l'=>
    obtain⟨a',cap,h1,h2⟩:=hom
    exact⟨a',cap,hg _ h1,h2⟩
   | larr e mu k' R=>
    obtain⟨a',cap,vs,h1,h2,h3⟩:=hom
    exact⟨a',cap,vs,hg _ h1,h2,h3⟩
   | bcv e l'=>obtain⟨g,cur,h1,h2⟩:=hom;exact⟨g,cur,hg _ h1,h2⟩
   | raw o'=>obtain⟨b,h1,h2⟩:=hom;exact⟨b,hg _ h1,h2⟩
   | mp e l'=>obtain⟨b,es,cl,h1,h2⟩:=hom;exact⟨b,es,cl,hg _ h1,h2⟩
   | bldr T x x' hx=>obtain⟨b,v0,v1,h1,h2,h3,h4,h5,h6⟩:=hom;exact⟨b,v0,v1,hg _ h1,h2,h3,hx.rel hu h4,h5,h6⟩
   | cells cs cs' e1 e2=>
    obtain⟨b,vs,e,h1,h2,h3,h4,h5⟩:=hom
    exact⟨b,vs,e,hg _ h1,h2,by omega,fun j hj=>⟨(e2 j hj).rel (hu j hj) (h4 j (by omega)).1,(h4 j (by omega)).2⟩,h5⟩
 .intro i j g g' b _ _ hg hg' hb hb'
  rcases hγ i g hg with⟨old,hr,hgo,hs1⟩|⟨k,rfl⟩
  .rcases hγ j g' hg' with⟨old',hr',hgo',hs2⟩|⟨k,rfl⟩
   . -- both are old objects that stand
    have h1:obF old≠none:=by
     obtain⟨ob,hob1⟩:=Option.isSome_iff_exists.1 ((hkeys i).trans hs1)
     obtain⟨_,hc⟩:=hob i ob hob1
     rw[hr]at hc
     obtain⟨ob0,ho0,_⟩:=hc
     rw[ho0];simp
    have h2:obF old'≠none:=by
     obtain⟨ob,hob1⟩:=Option.isSome_iff_exists.1 ((hkeys j).trans hs2)
     obtain⟨_,hc⟩:=hob j ob hob1
     rw[hr']at hc
     obtain⟨ob0,ho0,_⟩:=hc
     rw[ho0];simp
    have e:=h.sep old old' g g' b h1 h2 hgo hgo' hb hb'
    subst e
    exact hinj i j old hr hr' hs1 hs2
   .cases hb'
  .cases hb
 .intro i g b hoi hg hb
  rcases hγ i g hg with⟨old,hr,hgo,hs1⟩|⟨k,rfl⟩
  .have h1:obF old≠none:=by
    obtain⟨ob,hob1⟩:=Option.isSome_iff_exists.1 ((hkeys i).trans hs1)
    obtain⟨_,hc⟩:=hob i ob hob1
    rw[hr]at hc
    obtain⟨ob0,ho0,_⟩:=hc
    rw[ho0];simp
   exact h.lo old g b h1 hgo hb
  .cases hb
end Go.Am
/-! The contract of a function that changes memory that is handed to it;its call. -/
namespace Go.Am
open Go Go.RowKit
variable {P:Program}{γ γ':Nat->Option G}{M M':Mem}{C:Ctx}{s s':S}{a a':Act}{w w':World}
def Handed(γ:Nat->Option G)(ib:List (Nat×AObj))(b:Nat):Prop:=∃ id g,ze id ib≠none/\γ id=some g/\g.blk=some b
structure HOk(γ:Nat->Option G)(ib:List (Nat×AObj))(M:Mem)(w:World):Prop extends WOk M w where
 hand:∀ b,Handed γ ib b->¬ znU b
instance {γ:Nat->Option G}{ib:List (Nat×AObj)}{M:Mem}{w:World}:CoeFun (HOk γ ib M w) (fun _=>∀ b o v,M b o=some v->w.cell? ⟨b,o,none⟩=some v):=⟨fun h=>h.cell⟩
instance {γ:Nat->Option G}{ib:List (Nat×AObj)}{M:Mem}{w:World}:CoeOut (HOk γ ib M w) (WOk M w):=⟨HOk.toWOk⟩
def FnR(P:Program)(f:FuncId)(args:List AV)(ib:List (Nat×AObj))(kept:List Nat)(r:AV)(outs:List (Nat×AObj)):Prop:=
 ∀ (γ:Nat->Option G) (M:Mem) (w:World) (vs:List Value),ziZ γ M w (fun i=>ze i ib) (fun b=>b<w.heap.size)->(∀ i,ze i ib=none->γ i=none)->HOk γ ib M w->ARels γ M args vs->
  Calls P f vs.toArray w fun e w'=>∃ v γ' M',e=.returned v/\(∀ i ∈ kept,∀ g,γ i=some g->γ' i=some g)/\MLe M M'/\MOk M' w'/\ARel γ' M' r v/\
   ziZ γ' M' w' (fun i=>ze i outs) (fun b=>(w.heap.size<=b\/Handed γ ib b)/\b<w'.heap.size)/\
   (∀ b,b<w.heap.size->¬ Handed γ ib b->w'.heap[b]?=w.heap[b]?/\M' b=M b)/\w.heap.size<=w'.heap.size/\w'.os=w.os/\w'.tape=w.tape/\w'.output=w.output
def zbw(ps:List (Nat×Nat)):Rn:=ps.map fun p=>(p.1,some p.2)
def zbU(ps:List (Nat×Nat)):Rn:=ps.map fun p=>(p.2,some p.1)
def zeG(ps:List (Nat×Nat)):Bool:=zaF (ps.map (·.1))&&zaF (ps.map (·.2))
theorem zkU{rn:Rn}{i old:Nat}(h:zI rn i=some old):(i,some old) ∈ rn:=by
 unfold zI at h
 split at h
 .rename_i q hq;cases h;exact zaD hq
 .cases h
theorem zot{ps:List (Nat×Nat)}(h:zeG ps=true){i j:Nat}(hm:(i,j) ∈ ps):zI (zbw ps) i=some j:=by
 unfold zeG at h
 rw[Bool.and_eq_true]at h
 have h1:zaF ((zbw ps).map (·.1))=true:=by simpa[zbw,List.map_map,Function.comp_def]using h.1
 have:ze i (zbw ps)=some (some j):=zaq h1 (List.mem_map.2 ⟨(i,j),hm,rfl⟩)
 unfold zI;rw[this]
theorem zx3{ps:List (Nat×Nat)}(h:zeG ps=true){i j:Nat}(hm:(i,j) ∈ ps):zI (zbU ps) j=some i:=by
 unfold zeG at h
 rw[Bool.and_eq_true]at h
 have h1:zaF ((zbU ps).map (·.1))=true:=by simpa[zbU,List.map_map,Function.comp_def]using h.2
 have:ze j (zbU ps)=some (some i):=zaq h1 (List.mem_map.2 ⟨(i,j),hm,rfl⟩)
 unfold zI;rw[this]
theorem zsj{ps:List (Nat×Nat)}{i j:Nat}(h:zI (zbU ps) j=some i):(i,j) ∈ ps:=by
 obtain⟨p,hp,he⟩:=List.mem_map.1 (zkU h)
 cases he;exact hp
theorem zkX{ps:List (Nat×Nat)}{i j:Nat}(h:zI (zbw ps) i=some j):(i,j) ∈ ps:=by
 obtain⟨p,hp,he⟩:=List.mem_map.1 (zkU h)
 cases he;exact hp
def zko(fw:Rn):AV->Bool
 | .any=>true
 | .p _=>true
 | .ref id _=>(zI fw id).isSome
 | .arr id=>(zI fw id).isSome
 | .mref id=>(zI fw id).isSome
 | _=>false
def zkn(fw:Rn):AV->Bool
 | .clo _ fs cs=>fs.all (zko fw)&&cs.all (zko fw)
 | .agg cs=>cs.all (zko fw)
 | .tup cs=>cs.all (zko fw)
 | x=>zko fw x
def zkm(fw:Rn):AObj->Bool
 | .cells cs=>cs.all (zkn fw)
 | .bldr _ a=>zkn fw a
 | _=>true
section
variable {rn fw:Rn}{ids:List (Nat×Nat)}(hinv:∀ i j,zI fw j=some i->zI rn i=some j/\(ze i ids).isSome=true)
include hinv
theorem zlO{x:AV}(h:zko fw x=true):zbG (zI rn) x (zcW fw x)/\zcv ids (zcW fw x):=by
 cases x with
 | any=>exact⟨.any _,.any⟩
 | p q=>exact⟨.p q,.p q⟩
 | ref id off=>
  obtain⟨n,hn⟩:=Option.isSome_iff_exists.1 h
  obtain⟨h1,h2⟩:=hinv n id hn
  simp only[zcW,hn]
  exact⟨.ref _ _ _ h1,.ref _ _ h2⟩
 | arr id=>
  obtain⟨n,hn⟩:=Option.isSome_iff_exists.1 h
  obtain⟨h1,h2⟩:=hinv n id hn
  simp only[zcW,hn]
  exact⟨.arr _ _ h1,.arr _ h2⟩
 | mref id=>
  obtain⟨n,hn⟩:=Option.isSome_iff_exists.1 h
  obtain⟨h1,h2⟩:=hinv n id hn
  simp only[zcW,hn]
  exact⟨.mref _ _ h1,.mref _ h2⟩
 | _=>cases h
theorem zlN{x:AV}(h:zkn fw x=true):zbG (zI rn) x (zgg fw x)/\zcv ids (zgg fw x):=by
 have lists:∀ cs:List AV,cs.all (zko fw)=true->(∀ i,i<(cs.map (zcW fw)).length->zbG (zI rn) (cs.getD i .any) ((cs.map (zcW fw)).getD i .any))/\∀ i,i<(cs.map (zcW fw)).length->zcv ids ((cs.map (zcW fw)).getD i .any):=by
  intro cs hc
  refine⟨fun i hi=>?_,fun i hi=>?_⟩
  .rw [zdT (zcW fw) rfl];exact(zlO hinv (zdy hc (by simpa using hi) .any)).1
  .rw [zdT (zcW fw) rfl];exact(zlO hinv (zdy hc (by simpa using hi) .any)).2
 cases x with
 | clo fn fs cs=>
  simp only[zkn,Bool.and_eq_true]at h
  obtain⟨h1,h2⟩:=lists fs h.1
  obtain⟨h3,h4⟩:=lists cs h.2
  exact⟨.clo _ _ _ _ _ (by simp) (by simp) h1 h3,.clo _ _ _ h2 h4⟩
 | agg cs=>
  obtain⟨h1,h2⟩:=lists cs h
  exact⟨.agg _ _ (by simp) h1,.agg _ h2⟩
 | tup cs=>
  obtain⟨h1,h2⟩:=lists cs h
  exact⟨.tup _ _ (by simp) h1,.tup _ h2⟩
 | any=>exact zlO hinv (x:=.any) h
 | p q=>exact zlO hinv (x:=.p q) h
 | ref id off=>exact zlO hinv (x:=.ref id off) h
 | arr id=>exact zlO hinv (x:=.arr id) h
 | mref id=>exact zlO hinv (x:=.mref id) h
 | aptr _ _ _=>cases h
 | gd _ _=>cases h
theorem zHu{o:AObj}(h:zkm fw o=true):zi3 (zI rn) o (zgD fw o)/\zmK ids (zgD fw o):=by
 cases o with
 | barr e mu l=>exact⟨.refl_b _ _ _,trivial⟩
 | larr e mu k R=>exact⟨.larr _ _ _ _,trivial⟩
 | bcv e l=>exact⟨.bcv _ _,trivial⟩
 | raw o=>exact⟨.raw _,trivial⟩
 | mp e l=>exact⟨.mp _ _,trivial⟩
 | bldr T x=>have hc:zkn fw x=true:=h;exact⟨.bldr _ _ _ (zlN hinv hc).1,(zlN hinv hc).2⟩
 | cells cs=>
  have hc:cs.all (zkn fw)=true:=h
  refine⟨.cells _ _ (by simp) fun i hi=>?_,fun i hi=>?_⟩
  .rw [zdT (zgg fw) rfl];exact(zlN hinv (zdy hc (by simpa using hi) .any)).1
  .rw [zdT (zgg fw) rfl];exact(zlN hinv (zdy hc (by simpa using hi) .any)).2
end
theorem zpz{α:Type}{p:α->Prop}:∀ {l:List α},(∀ x ∈ l,p x)->All (l.map p)
 | [],_=>trivial
 | x::l,h=>⟨h x (List.mem_cons_self ..),zpz fun y hy=>h y (List.mem_cons_of_mem _ hy)⟩
theorem zjE{α β:Type}{f:α->Option β}{l:List α}:∀ {r:List β},zx f l=some r->(∀ y ∈ r,∃ x ∈ l,f x=some y)/\(∀ x ∈ l,∃ y ∈ r,f x=some y):=by
 induction l with
 | nil=>intro r h;cases h;exact⟨fun _ h=>(nomatch h),fun _ h=>(nomatch h)⟩
 | cons x l ih=>
  intro r h
  simp only[zx]at h
  cases hx:f x with
  | none=>rw[hx]at h;cases h
  | some y=>
   cases hl:zx f l with
   | none=>rw[hx,hl]at h;cases h
   | some ys=>
    rw[hx,hl]at h;cases h
    obtain⟨h1,h2⟩:=ih hl
    refine⟨fun z hz=>?_,fun z hz=>?_⟩
    .rcases List.mem_cons.1 hz with e|hz
     .exact ⟨x,List.mem_cons_self ..,by rw[e];exact hx⟩
     .obtain ⟨u,hu,he⟩:=h1 z hz;exact⟨u,List.mem_cons_of_mem _ hu,he⟩
    .rcases List.mem_cons.1 hz with e|hz
     .exact ⟨y,List.mem_cons_self ..,by rw[e];exact hx⟩
     .obtain ⟨u,hu,he⟩:=h2 z hz;exact⟨u,List.mem_cons_of_mem _ hu,he⟩
def zlr(obF:Nat->Option AObj)(ps:List (Nat×Nat)):Option (List (Nat×AObj)):=
 zx (fun p=>match obF p.2 with|some o=>(match zkm (zbU ps) o with|true=>some (p.1,zgD (zbU ps) o)|false=>none)|none=>none) ps
theorem zeq{obF:Nat->Option AObj}{ps:List (Nat×Nat)}{ib:List (Nat×AObj)}(h:zlr obF ps=some ib):
 ib.map (·.1)=ps.map (·.1)/\(∀ q ∈ ib,∃ j o,(q.1,j) ∈ ps/\obF j=some o/\zkm (zbU ps) o=true/\q.2=zgD (zbU ps) o)/\∀ i j,(i,j) ∈ ps->obF j≠none:=by
 unfold zlr at h
 generalize hfw:zbU ps=fw at h
 have hf:∀ (p:Nat×Nat) (q:Nat×AObj),(match obF p.2 with|some o=>(match zkm fw o with|true=>some (p.1,zgD fw o)|false=>none)|none=>none)=some q->q.1=p.1/\∃ o,obF p.2=some o/\zkm fw o=true/\q.2=zgD fw o:=by
  intro p q hq
  cases ho:obF p.2 with
  | none=>rw[ho]at hq;cases hq
  | some o=>
   rw[ho]at hq
   dsimp only at hq
   cases hu:zkm fw o with
   | false=>rw[hu]at hq;cases hq
   | true=>rw[hu]at hq;cases hq;exact⟨rfl,o,rfl,hu,rfl⟩
 refine⟨?_,?_,?_⟩
 .clear hfw
  have:∀ (l:List (Nat×Nat)) (r:List (Nat×AObj)),zx (fun p=>match obF p.2 with|some o=>(match zkm fw o with|true=>some (p.1,zgD fw o)|false=>none)|none=>none) l=some r->r.map (·.1)=l.map (·.1):=by
   intro l
   induction l with
   | nil=>intro r h;cases h;rfl
   | cons x l ih=>
    intro r h
    simp only[zx]at h
    split at h
    .rename_i y ys hx hl
     cases h
     have:=(hf x y hx).1
     simp[this,ih ys hl]
    .cases h
  exact this ps ib h
 .intro q hq
  obtain⟨p,hp,he⟩:=(zjE h).1 q hq
  obtain⟨h1,o,h2,h3,h4⟩:=hf p q he
  exact⟨p.2,o,by rw[h1];exact hp,h2,h3,h4⟩
 .intro i j hm
  obtain⟨y,_,he⟩:=(zjE h).2 _ hm
  obtain⟨_,o,h2,_⟩:=hf (i,j) y he
  show obF j≠none
  rw[show obF j=some o from h2];simp
theorem zcD{α:Type}:∀ {l:List (Nat×α)} {i:Nat},i ∈ l.map (·.1)->(ze i l).isSome=true
 | [],_,h=>by cases h
 | p::l,i,h=>by
  unfold ze
  cases hb:Nat.beq i p.1 with
  | true=>rfl
  | false=>
   rcases List.mem_cons.1 h with e|e
   .subst e;simp at hb
   .exact zcD e
theorem znh{α:Type}{l:List (Nat×α)}{i:Nat}(h:(ze i l).isSome=true):i ∈ l.map (·.1):=by
 obtain⟨x,hx⟩:=Option.isSome_iff_exists.1 h
 exact List.mem_map.2 ⟨_,zaD hx,rfl⟩
theorem zlq{ps:List (Nat×Nat)}(hok:zeG ps=true){ib:List (Nat×AObj)}(hk:ib.map (·.1)=ps.map (·.1)):
 ∀ i j,zI (zbU ps) j=some i->zI (zbw ps) i=some j/\(ze i (yd ib)).isSome=true:=by
 intro i j h
 have hm:=zsj h
 refine⟨zot hok hm,zcD ?_⟩
 have:(yd ib).map (·.1)=ps.map (·.1):=by rw[<-hk];simp[yd]
 rw[this]
 exact List.mem_map.2 ⟨_,hm,rfl⟩
theorem znT{obF:Nat->Option AObj}{L:Nat->Prop}(h:ziZ γ M w obF L){ps:List (Nat×Nat)}(hok:zeG ps=true){ib:List (Nat×AObj)}(hib:zlr obF ps=some ib):
 ziZ (zay γ (yd ib) (zI (zbw ps))) M w (fun i=>ze i ib) L:=by
 obtain⟨hk,hq,_⟩:=zeq hib
 have hinv:=zlq hok hk
 refine zCX (yd ib) (zI (zbw ps)) (by simp[yd]) (zpz fun q hqm=>?_) (fun i j old hi hj _ _=>?_) h
 .obtain ⟨j,o,hm,ho,hu,he⟩:=hq q hqm
  obtain⟨c1,c2⟩:=zHu hinv hu
  rw[zot hok hm,he]
  exact⟨c2,o,ho,c1⟩
 .have h1:=zx3 hok (zkX hi)
  have h2:=zx3 hok (zkX hj)
  rw[h1]at h2;cases h2;rfl
theorem zim{ids:List (Nat×Nat)}{ps:List (Nat×Nat)}{i:Nat}{g:G}(hk:ids.map (·.1)=ps.map (·.1))(hok:zeG ps=true)(h:zay γ ids (zI (zbw ps)) i=some g):
 ∃ j,(i,j) ∈ ps/\γ j=some g:=by
 unfold zay at h
 cases hl:ze i ids with
 | none=>rw[hl]at h;cases h
 | some k=>
  rw[hl]at h
  have:i ∈ ps.map (·.1):=by rw[<-hk];exact znh (by rw[hl];rfl)
  obtain⟨p,hp,he⟩:=List.mem_map.1 this
  have hr:=zot hok (i:=i) (j:=p.2) (by rw[<-he];exact hp)
  rw[hr]at h
  exact⟨p.2,by rw[<-he];exact hp,h⟩
theorem zt9{ids:List (Nat×Nat)}{ps:List (Nat×Nat)}{i j:Nat}(hk:ids.map (·.1)=ps.map (·.1))(hok:zeG ps=true)(hm:(i,j) ∈ ps):zay γ ids (zI (zbw ps)) i=γ j:=by
 unfold zay
 have:(ze i ids).isSome=true:=zcD (by rw[hk];exact List.mem_map.2 ⟨_,hm,rfl⟩)
 obtain⟨k,hl⟩:=Option.isSome_iff_exists.1 this
 simp only[hl,zot hok hm]
theorem ARels.ren{rn fw:Rn}{ids:List (Nat×Nat)}(hinv:∀ i j,zI fw j=some i->zI rn i=some j/\(ze i ids).isSome=true):
 ∀ {xs:List AV} {vs:List Value},xs.all (zkn fw)=true->ARels γ M xs vs->ARels (zay γ ids (zI rn)) M (xs.map (zgg fw)) vs
 | _,_,_,.nil=>.nil
 | _,_,hu,.cons h1 h2=>by
  simp only[List.all_cons,Bool.and_eq_true]at hu
  obtain⟨c1,c2⟩:=zlN hinv hu.1
  exact .cons (c1.rel c2 h1) (ARels.ren hinv hu.2 h2)
end Go.Am
/-! The call itself, in the caller's state. -/
namespace Go.Am
open Go Go.RowKit
variable {P:Program}{γ γ':Nat->Option G}{M M':Mem}{C:Ctx}{s s':S}{a a':Act}{w w':World}
structure zma where
 sn:List Bool
 sp:List AV->List (Nat×AObj)->Option ((List Nat×AV)×(List (Nat×AObj)×Option Prop))
abbrev zaK:=FuncId->Option zma
def zhY(P:Program)(f:FuncId)(sp:zma):Prop:=∀ args ib kept r outs ok,sp.sp args ib=some ((kept,r),(outs,ok))->okP ok->zR P f=true/\FnR P f args ib kept r outs
def zal(P:Program)(env:zaK):Prop:=∀ f sp,env f=some sp->zhY P f sp
def mids(ob:Nat->Option AObj):List Bool->List AV->Option (List AV)
 | true::sn,x::xs=>match zeN ob x,mids ob sn xs with
  | some y,some ys=>some (y::ys)
  | _,_=>none
 | false::sn,x::xs=>match mids ob sn xs with
  | some ys=>some (x::ys)
  | none=>none
 | [],[]=>some []
 | _,_=>none
def yX(x:Nat)(l:List Nat):Bool:=l.any (Nat.beq x)
def zB0:AV->List Nat
 | .ref id _=>[id]
 | .mref id=>[id]
 | .arr id=>[id]
 | _=>[]
def zBZ:AV->List Nat
 | .clo _ fs cs=>(fs++cs).flatMap zB0
 | .agg cs=>cs.flatMap zB0
 | .tup cs=>cs.flatMap zB0
 | x=>zB0 x
def zl6:List Nat->List Nat->List Nat
 | acc,[]=>acc
 | acc,x::r=>match yX x acc with|true=>zl6 acc r|false=>zl6 (acc++[x]) r
def idsO(ob:Nat->Option AObj)(i:Nat):List Nat:=
 match ob i with
 | some (.cells cs)=>cs.flatMap zBZ
 | some (.bldr _ a)=>zBZ a
 | _=>[]
def zpb(ob:Nat->Option AObj):Nat->List Nat->List Nat
 | 0,acc=>acc
 | n+1,acc=>zpb ob n (zl6 acc (acc.flatMap (idsO ob)))
def zeh:Nat->List Nat->List (Nat×Nat)
 | _,[]=>[]
 | n,x::r=>(n,x)::zeh (n+1) r
def zoS(us:Nat->Bool):Nat->Nat->Nat
 | 0,j=>j
 | n+1,j=>match us j with|true=>zoS us n (j+1)|false=>j
def zG9(us:Nat->Bool)(ps:List (Nat×Nat))(kept:List Nat)(i:Nat):Nat×Nat:=
 match yX i kept,ze i ps with
 | true,some j=>(j,i)
 | _,_=>match i with
  | 0=>(zoS us 100 1000000,0)
  | n+1=>(zoS us 100 (1000000+1000*(n+2)),n+1)
def qsOk(us:Nat->Bool)(ps:List (Nat×Nat))(kept:List Nat)(qs:List (Nat×Nat)):Bool:=
 qs.all fun q=>!us q.1||(yX q.2 kept&&(match ze q.2 ps with|some j=>Nat.beq j q.1|none=>false))
def zeI(ob:Nat->Option AObj)(gone:List Nat)(ob':List (Nat×AObj)):Nat->Option AObj:=fun j=>
 match ze j ob' with
 | some o=>some o
 | none=>match yX j gone with|true=>none|false=>ob j
def evR(env:zaK)(nt:Nat)(o:Oper)(s:S)(xs:List AV):Option (S×Option Prop):=
 match o.op,xs,yu nt o.dst with
 | .call ⟨.value _,_,_⟩,.clo (.func f) fs cs::ys,true=>match env f with
  | some sp=>match mids s.ob sp.sn (fs++(ys++cs))with
   | some zs=>
    let ps:=zeh 70000 (zpb s.ob 2 (zl6 [] (zs.flatMap zBZ)))
    match zeG ps&&zs.all (zkn (zbU ps)),zlr s.ob ps with
    | true,some ib=>match sp.sp (zs.map (zgg (zbU ps))) ib with
     | some ((kept,r),(outs,ok))=>
      let qs:=outs.map fun q=>zG9 s.us ps kept q.1
      match zeG qs&&zkn (zbU qs) r&&qsOk s.us ps kept qs,zlr (fun i=>ze i outs) qs with
      | true,some ob'=>some ({ sl:=zX s.sl o.dst (zgg (zbU qs) r),ob:=zeI s.ob (ps.map (·.2)) ob',us:=fun j=>s.us j||(ze j ob').isSome },ok)
      | _,_=>none
     | none=>none
    | _,_=>none
   | none=>none
  | none=>none
 | _,_,_=>none
theorem zyw(hs:StG C γ M s a w):∀ {sn:List Bool} {xs zs:List AV} {vs:List Value},mids s.ob sn xs=some zs->ARels γ M xs vs->ARels γ M zs vs:=by
 intro sn
 induction sn with
 | nil=>
  intro xs zs vs h hx
  cases xs with
  | nil=>cases h;exact hx
  | cons _ _=>cases h
 | cons b sn ih=>
  intro xs zs vs h hx
  cases xs with
  | nil=>cases b <;> cases h
  | cons x xs=>
   cases hx with
   | cons h1 h2=>
    cases b with
    | false=>
     simp only[mids]at h
     cases hm:mids s.ob sn xs with
     | none=>rw[hm]at h;cases h
     | some ys=>rw[hm]at h;cases h;exact .cons h1 (ih hm h2)
    | true=>
     simp only[mids]at h
     cases hp:zeN s.ob x with
     | none=>rw[hp]at h;cases h
     | some y=>
      cases hm:mids s.ob sn xs with
      | none=>rw[hp,hm]at h;cases h
      | some ys=>rw[hp,hm]at h;cases h;exact .cons ((zg9 hs hp h1).mono (fun _ _ hx=>by cases hx) (MLe.refl M)) (ih hm h2)
theorem zaT{x:Nat}{l:List Nat}:yX x l=true↔x ∈ l:=by
 unfold yX
 rw[List.any_eq_true]
 constructor
 .rintro ⟨y,hy,h⟩;rw[Nat.eq_of_beq_eq_true h];exact hy
 .intro h;exact⟨x,h,by simp⟩
theorem StG.called(h:StG C γ M s a w){dst:Option Nat}(hd:yu C.nt dst=true){ps qs:List (Nat×Nat)}(hps:zeG ps=true)(hqs:zeG qs=true)
 {ib outs ob':List (Nat×AObj)} (hib:zlr s.ob ps=some ib) (hob:zlr (fun i=>ze i outs) qs=some ob') {kept:List Nat} (hk:qsOk s.us ps kept qs=true)
 {γ2:Nat->Option G} {M2:Mem} {w2:World} {r:AV} {v:Value} (hur:zkn (zbU qs) r=true)
 (hkept:∀ i ∈ kept,∀ g,zay γ (yd ib) (zI (zbw ps)) i=some g->γ2 i=some g) (hM:MLe M M2) (hmem:MOk M2 w2) (hr:ARel γ2 M2 r v)
 (hO:ziZ γ2 M2 w2 (fun i=>ze i outs) (fun b=>(w.heap.size<=b\/Handed (zay γ (yd ib) (zI (zbw ps))) ib b)/\b<w2.heap.size))
 (hold:∀ b,b<w.heap.size->¬ Handed (zay γ (yd ib) (zI (zbw ps))) ib b->w2.heap[b]?=w.heap[b]?/\M2 b=M b)
 (hsz:w.heap.size<=w2.heap.size) (hos:w2.os=w.os) (htape:w2.tape=w.tape) (hout:w2.output=w.output):
 St C { sl:=zX s.sl dst (zgg (zbU qs) r),ob:=zeI s.ob (ps.map (·.2)) ob',us:=fun j=>s.us j||(ze j ob').isSome } (a.put dst v) w2:=by
 obtain⟨k1,k2,k3⟩:=zeq hib
 obtain⟨o1,o2,o3⟩:=zeq hob
 have hidI:(yd ib).map (·.1)=ps.map (·.1):=by rw[<-k1];simp[yd]
 have hidO:(yd ob').map (·.1)=qs.map (·.1):=by rw[<-o1];simp[yd]
 have hON:=znT hO hqs hob
 have handed:∀ b,Handed (zay γ (yd ib) (zI (zbw ps))) ib b->∃ j g,j ∈ ps.map (·.2)/\s.ob j≠none/\γ j=some g/\g.blk=some b:=by
  rintro b ⟨i,g,_,hg,hb⟩
  obtain⟨j,hm,hgj⟩:=zim hidI hps hg
  exact⟨j,g,List.mem_map.2 ⟨_,hm,rfl⟩,k3 i j hm,hgj,hb⟩
 let γn:Nat->Option G:=fun j=>match ze j ob' with
  | some _=>zay γ2 (yd ob') (zI (zbw qs)) j
  | none=>γ j
 have γn_in:∀ {j o},ze j ob'=some o->γn j=zay γ2 (yd ob') (zI (zbw qs)) j:=by
  intro j o ho;simp only[γn,ho]
 have γn_out:∀ {j},ze j ob'=none->γn j=γ j:=by intro j ho;simp only[γn,ho]
 have hγ:GLe γ γn:=by
  intro j g hg
  cases ho:ze j ob' with
  | none=>rw[γn_out ho];exact hg
  | some o=>
   rw[γn_in ho]
   have:j ∈ qs.map (·.1):=by rw[<-o1];exact znh (by rw[ho];rfl)
   obtain⟨q,hq,he⟩:=List.mem_map.1 this
   have hq':(j,q.2) ∈ qs:=by rw[<-he];exact hq
   rw[zt9 hidO hqs hq']
   have hc:=List.all_eq_true.1 hk _ hq'
   rw[Bool.or_eq_true]at hc
   rcases hc with hc|hc
   .rw [h.us j (by simpa using hc)]at hg;cases hg
   .rw [Bool.and_eq_true]at hc
    have hkm:=zaT.1 hc.1
    have hl:=hc.2
    dsimp only at hl hkm
    cases hlp:ze q.2 ps with
    | none=>rw[hlp]at hl;cases hl
    | some j'=>
     rw[hlp]at hl
     have:j'=j:=Nat.eq_of_beq_eq_true hl
     subst this
     refine hkept q.2 hkm g ?_
     rw[zt9 hidI hps (zaD hlp)];exact hg
 have hγ2:GLe (zay γ2 (yd ob') (zI (zbw qs))) γn:=by
  intro j g hg
  cases ho:ze j ob' with
  | some o=>rw[γn_in ho];exact hg
  | none=>
   exfalso
   obtain⟨i,hm,_⟩:=zim hidO hqs hg
   have:(ze j ob').isSome=true:=zcD (by rw[o1];exact List.mem_map.2 ⟨_,hm,rfl⟩)
   rw[ho]at this;cases this
 have hr':ARel γn M2 (zgg (zbU qs) r) v:=by
  obtain⟨c1,c2⟩:=zlN (zlq hqs o1) hur
  exact(c1.rel c2 hr).mono hγ2 (MLe.refl M2)
 have stays:∀ {j},ze j ob'=none->zeI s.ob (ps.map (·.2)) ob' j≠none->j ∉ ps.map (·.2)/\zeI s.ob (ps.map (·.2)) ob' j=s.ob j:=by
  intro j ho hm
  unfold zeI at hm ⊢
  rw[ho]at hm ⊢
  dsimp only at hm ⊢
  cases he:yX j (ps.map (·.2))with
  | true=>rw[he]at hm;exact absurd rfl hm
  | false=>exact⟨fun hmem=>Bool.noConfusion (he.symm.trans (zaT.2 hmem)),rfl⟩
 have inob:∀ {j o},ze j ob'=some o->zeI s.ob (ps.map (·.2)) ob' j=some o:=by
  intro j o ho;unfold zeI;rw[ho]
 have apart:∀ {j g b},j ∉ ps.map (·.2)->s.ob j≠none->γ j=some g->g.blk=some b->¬ Handed (zay γ (yd ib) (zI (zbw ps))) ib b:=by
  intro j g b hj ho hg hb hh
  obtain⟨j2,g2,h1,h2,h3,h4⟩:=handed b hh
  exact hj (h.sep j j2 g g2 b ho h2 hg h3 hb h4 ▸ h1)
 refine⟨γn,M2,za2 (dst:=dst) (by rw[h.nt];exact hd) (fun t=>(h.sl t).mono hγ hM) hr',?_,?_,?_,?_,hmem,h.le.trans hM,?_,?_,by rw[yB];exact h.df,by rw[zae];exact h.nt,h.gl.trans hγ⟩
 .intro id o ho
  cases hl:ze id ob' with
  | some o'=>
   have:=inob hl
   have e:o'=o:=by have:=this.symm.trans ho;cases this;rfl
   subst e
   exact(hON.ob id o' hl).keep hγ2 (MLe.refl M2) fun _ _ _ _=>⟨rfl,rfl⟩
  | none=>
   obtain⟨h1,h2⟩:=stays hl (by show zeI s.ob (ps.map (·.2)) ob' id≠none;rw[show zeI s.ob (ps.map (·.2)) ob' id=some o from ho];simp)
   have ho':s.ob id=some o:=h2.symm.trans ho
   refine(h.ob id o ho').keep hγ hM fun g b hg hb=>?_
   exact hold b (h.lo id g b (by rw[ho'];simp) hg hb).2 (apart h1 (by rw[ho'];simp) hg hb)
 .intro id hu
  have hu':(s.us id||(ze id ob').isSome)=false:=hu
  rw[Bool.or_eq_false_iff]at hu'
  have hl:ze id ob'=none:=by cases hl:ze id ob' with|none=>rfl|some _=>rw[hl]at hu';cases hu'.2
  rw[γn_out hl];exact h.us id hu'.1
 .intro i j g g' b hi hj hg hg' hb hb'
  have hi':zeI s.ob (ps.map (·.2)) ob' i≠none:=hi
  have hj':zeI s.ob (ps.map (·.2)) ob' j≠none:=hj
  cases hl:ze i ob' with
  | some o=>
   rw[γn_in hl]at hg
   cases hl2:ze j ob' with
   | some o2=>
    rw[γn_in hl2]at hg'
    exact hON.sep i j g g' b (by rw[hl];simp) (by rw[hl2];simp) hg hg' hb hb'
   | none=>
    exfalso
    rw[γn_out hl2]at hg'
    obtain⟨h1,h2⟩:=stays hl2 hj'
    rw[h2]at hj'
    have hL:=(hON.lo i g b (by rw[hl];simp) hg hb).1
    rcases hL with hL|hL
    .have:=(h.lo j g' b hj' hg' hb').2;omega
    .exact apart h1 hj' hg' hb' hL
  | none=>
   rw[γn_out hl]at hg
   obtain⟨h1,h2⟩:=stays hl hi'
   rw[h2]at hi'
   cases hl2:ze j ob' with
   | some o2=>
    exfalso
    rw[γn_in hl2]at hg'
    have hL:=(hON.lo j g' b (by rw[hl2];simp) hg' hb').1
    rcases hL with hL|hL
    .have:=(h.lo i g b hi' hg hb).2;omega
    .exact apart h1 hi' hg hb hL
   | none=>
    rw[γn_out hl2]at hg'
    obtain⟨h3,h4⟩:=stays hl2 hj'
    rw[h4]at hj'
    exact h.sep i j g g' b hi' hj' hg hg' hb hb'
 .intro i g b hi hg hb
  have hi':zeI s.ob (ps.map (·.2)) ob' i≠none:=hi
  cases hl:ze i ob' with
  | some o=>
   rw[γn_in hl]at hg
   obtain⟨hL,hlt⟩:=hON.lo i g b (by rw[hl];simp) hg hb
   refine⟨?_,hlt⟩
   rcases hL with hL|hL
   .exact .inl (Nat.le_trans h.fr.size hL)
   .obtain ⟨j2,g2,_,h2,h3,h4⟩:=handed b hL
    exact(h.lo j2 g2 b h2 h3 h4).1
  | none=>
   rw[γn_out hl]at hg
   obtain⟨_,h2⟩:=stays hl hi'
   rw[h2]at hi'
   have:=h.lo i g b hi' hg hb
   exact⟨this.1,by omega⟩
 .intro b hb ho
  have hsz0:=h.fr.size
  refine(hold b (by omega) fun hh=>?_).2.trans (h.new b hb ho)
  obtain⟨j2,g2,_,h2,h3,h4⟩:=handed b hh
  rcases(h.lo j2 g2 b h2 h3 h4).1 with h5|h5
  .omega
  .exact ho h5
 .have hf:=h.fr
  refine⟨hos.trans hf.os,htape.trans hf.tape,hout.trans hf.output,Nat.le_trans hf.size hsz,fun b hb ho=>?_,hf.tab⟩
  have hsz0:=hf.size
  refine(hold b (by omega) fun hh=>?_).1.trans (hf.block b hb ho)
  obtain⟨j2,g2,_,h2,h3,h4⟩:=handed b hh
  rcases(h.lo j2 g2 b h2 h3 h4).1 with h5|h5
  .omega
  .exact ho h5
theorem zwg{env:zaK}(henv:zal P env)(hs:StG C γ M s a w)(o:Oper){xs:List AV}{ok:Option Prop}
 (h:evR env C.nt o s xs=some (s',ok)) (hok:okP ok) (hx:ARels γ M xs (o.op.operands.toList.map a.eval)) {next:Act->World->Prop} {Q:Exit->Act->World->Prop}
 (hn:∀ a' w',St C s' a' w'->next a' w'):o.wpIn (FW C.rd) 0 P a w next Q:=by
 obtain⟨dst,op,type,pos,after,guard⟩:=o
 dsimp only at hx
 unfold evR at h
 dsimp only at h
 split at h
 .rename_i fop args ts f fs cs ys hd
  have hx':ARels γ M (.clo (.func f) fs cs::ys) (a.eval fop::args.toList.map a.eval):=by simpa[Op.operands,Call.operands]using hx
  cases hsp:env f with
  | none=>rw[hsp]at h;cases h
  | some sp=>
   rw[hsp]at h
   dsimp only at h
   cases hz:mids s.ob sp.sn (fs++(ys++cs))with
   | none=>rw[hz]at h;cases h
   | some zs=>
    rw[hz]at h
    dsimp only at h
    generalize zeh 70000 (zpb s.ob 2 (zl6 [] (zs.flatMap zBZ)))=ps at h
    split at h
    .rename_i ib hchk hib
     rw[Bool.and_eq_true]at hchk
     obtain⟨hps,huse⟩:=hchk
     split at h
     .rename_i kept r outs ok' hr
      split at h
      .rename_i ob' hchk2 hob
       cases h
       rw[Bool.and_eq_true,Bool.and_eq_true]at hchk2
       obtain⟨⟨hqs,hur⟩,hqok⟩:=hchk2
       obtain⟨hcall,hfn⟩:=henv f sp hsp _ _ _ _ _ _ hr hok
       cases hx' with
       | cons h1 h2=>
        generalize hfv:a.eval fop=fv at h1
        cases h1 with
        | clo _ _ _ vf vc hf hc g1 g2=>
         have hall:ARels γ M (fs++(ys++cs)) (vf.toList++(args.toList.map a.eval++vc.toList)):=by
          refine(ARels.of_get (by simpa using hf) fun i hi=>?_).append (h2.append (ARels.of_get (by simpa using hc) fun i hi=>?_))
          .have:=g1 i hi;rw[Array.getD_eq_getD_getElem?]at this;simpa[List.getD_eq_getElem?_getD]using this
          .have:=g2 i hi;rw[Array.getD_eq_getD_getElem?]at this;simpa[List.getD_eq_getElem?_getD]using this
         have hz':=zyw hs hz hall
         obtain⟨k1,k2,k3⟩:=zeq hib
         have hO0:ziZ γ M w s.ob (fun b=>b<w.heap.size):=⟨hs.ob,hs.sep,fun id g b h1 h2 h3=>(hs.lo id g b h1 h2 h3).2⟩
         have hOi:=znT hO0 hps hib
         have hargs:=ARels.ren (zlq hps k1) huse hz'
         have hnone:∀ i,ze i ib=none->zay γ (yd ib) (zI (zbw ps)) i=none:=by
          intro i hi
          unfold zay
          cases hl:ze i (yd ib)with
          | none=>rfl
          | some k=>
           have:(ze i ib).isSome=(ze i (yd ib)).isSome:=zc5 (by simp[yd]) i
           rw[hi,hl]at this;cases this
         have hhand:HOk (zay γ (yd ib) (zI (zbw ps))) ib M w:=⟨hs.wok,by
          rintro b ⟨i,g,_,hg,hb⟩
          obtain⟨j,hm,hgj⟩:=zim (by rw[<-k1];simp[yd]) hps hg
          exact hs.notab (k3 i j hm) hgj hb⟩
         have hC:=hfn _ M w _ hOi hnone hhand hargs
         have hrun:(execOp a.eval ⟨dst,.call ⟨.value fop,args,ts⟩,type,pos,after,guard⟩).run P w=.ok (.enter f (vf.toList++(args.toList.map a.eval++vc.toList)).toArray) w:=by
          simp only[execOp,resolve,hfv,Deferred.ofValue,Sem.run_bind,Sem.run_pure,Result.andThen_ok,invoke]
          have e:vf++args.map a.eval++vc=(vf.toList++(args.toList.map a.eval++vc.toList)).toArray:=by
           apply Array.ext';simp
          rw[e]
          exact ym hcall _ w
         refine zfA hrun (hC.mono fun e w' ⟨v,γ2,M2,he,hkept,hle,hmem,hrel,hO,hold,hsz,hos,htape,hout⟩=>⟨v,he,?_⟩)
         exact hn _ _ (hs.called hd hps hqs hib hob hqok hur hkept hle hmem hrel hO hold hsz hos htape hout)
      .cases h
     .cases h
    .cases h
 .cases h
def zzX:Op->Option (TypeId×TypeId)
 | .convert sT d _=>some (sT,d)
 | _=>none
theorem zrf{op:Op}{sT d:TypeId}(h:zzX op=some (sT,d)):∃ x,op=.convert sT d x:=by
 cases op <;> first|cases h|skip
 exact⟨_,rfl⟩
def zuU:Op->Option TypeId
 | .slice t _ none (some _) none=>some t
 | _=>none
theorem ztb{op:Op}{t:TypeId}(h:zuU op=some t):∃ x y,op=.slice t x none (some y) none:=by
 unfold zuU at h
 split at h
 .cases h;exact⟨_,_,rfl⟩
 .cases h
def zoW(P:Program)(nt:Nat)(o:Oper)(t:TypeId)(s:S)(xs:List AV):Option (S×Option Prop):=
 match o.dst,xs,yu nt o.dst with
 | some d,[.arr id,.p (.int _ hi)],true=>match s.us d,s.ob id,(zcS P t).bind (zax P)with
  | false,some (.barr e true l),some 1=>some (yO s d (some id) (.barr e true (l.take hi.toNat)),some (0<=hi/\hi<=(l.length:Int)))
  | false,some (.larr e true k (.dat c l)),some k'=>match Nat.beq k k' with
   | true=>some (yO s d (some id) (.larr e true k (.dat c (l.take hi.toNat))),some (0<=hi/\hi<=(l.length:Int)))
   | false=>none
  | _,_,_=>none
 | _,_,_=>none
theorem zmr(hs:StG C γ M s a w)(o:Oper){t:TypeId}(hcut:zuU o.op=some t){s':S}{ok:Option Prop}{ρ:Operand->Value}
 (h:zoW P C.nt o t s (o.op.operands.toList.map (aev s.sl))=some (s',ok)) (hok:okP ok) (hx:ARels γ M (o.op.operands.toList.map (aev s.sl)) (o.op.operands.toList.map ρ)):
 ∃ v γ',(execOp ρ o).run P w=.ok (.value v) w/\StG C γ' M s' (a.put o.dst v) w:=by
 obtain⟨dst,op,type,pos,after,guard⟩:=o
 dsimp only at *
 obtain⟨x,y,rfl⟩:=ztb hcut
 generalize hxs:(List.map (aev s.sl) (Op.slice t x none (some y) none).operands.toList)=xs at h hx
 unfold zoW at h
 split at h
 .rename_i d id kk hi hdst hd
  dsimp only at hdst hd
  subst hdst
  have hx:ARels γ M [.arr id,.p (.int kk hi)] [ρ x,ρ y]:=hx
  split at h
  .rename_i e l hus hob hsz
   cases h
   cases hx with|cons ha hx=>
   cases hx with|cons hb hx=>
   obtain⟨ad,k,n,cap,hg,e1⟩:=ha.arr_inv
   have e2:=hb.int_inv.1
   obtain⟨ad',cap',hg',hA⟩:=hs.ob id _ hob
   rw[hg]at hg';cases hg'
   obtain⟨h0,h1⟩:0<=hi/\hi<=(l.length:Int):=hok
   obtain⟨m,rfl⟩:=Int.eq_ofNat_of_zero_le h0
   have hm:m<=l.length:=by omega
   obtain⟨e',he',hs1⟩:=Option.bind_eq_some_iff.1 hsz
   obtain⟨i,hi1,hi2⟩:=zgz hs1
   have hu:=zam he'
   have hel:P.elem t=e':=by simp[Program.elem,hu]
   have hnc:l.length<=cap:=by
    rcases hA.own.2 with⟨hv,h0⟩|⟨g',cap',cur,hv,_,_,hnc,_⟩
    .omega
    .simp only[yP,Value.slice.injEq]at hv
     omega
   have hrun:(execOp ρ ⟨some d,.slice t x none (some y) none,type,pos,after,guard⟩).run P w=.ok (.value (yP ad m cap)) w:=by
    have hs2:=run_slice_h (P:=P) (w:=w) t (ad.map fun g=>⟨g,0,none⟩) l.length cap (by rw[hel];exact hu) kk (m:Int) (by omega) (by omega)
    have h3:=run_sliceAt_slice (P:=P) (w:=w) t (ρ x) none (some (ρ y)) none (by rw[hel];exact hu)
    rw[e1,e2]at h3
    simp only[execOp,Option.map_none,Option.map_some,e1,e2,Sem.run_bind]
    unfold yP at *
    rw[h3,hs2,hel,yf hs1]
    simp only[Result.andThen_ok,sliced,Int.toNat_natCast,Nat.sub_zero,Nat.zero_mul]
    cases ad with
    | none=>simp
    | some g=>simp[zC]
   refine⟨yP ad m cap,upd γ d (some (.arr ad 1 m cap)),hrun,?_⟩
   have hγ:GLe γ (upd γ d (some (.arr ad 1 m cap))):=by
    intro i g' hi
    by_cases e:i=d
    .subst e;rw[hs.us i hus]at hi;cases hi
    .rw [zh _ _ e];exact hi
   refine hs.master (s':=yO s d (some id) (.barr e true (l.take m))) hγ (MLe.refl M)
    (za2 (dst:=some d) (by rw[hs.nt];exact hd) (fun t=>(hs.sl t).mono hγ (MLe.refl M)) (.arr d _ _ _ _ (zc _ _ _))) (by rw[zae];exact hs.nt) (by rw[yB];exact hs.df) d
    ?_ (fun i hi=>zh _ _ hi) ?_ ?_ (fun _ _ _ _ _ _ _=>⟨rfl,rfl⟩) ?_ ?_ (Nat.le_refl _) hs.mem (fun _ _ _=>rfl) hs.fr
   .intro i hi
    show upd (zba s.ob (some id)) d _ i=none\/upd (zba s.ob (some id)) d _ i=s.ob i
    rw[zh _ _ hi]
    rcases Classical.em (zba s.ob (some id) i=none)with e|e
    .exact .inl e
    .exact .inr (zcK e).1
   .intro i hi
    have hi':upd s.us d true i=false:=hi
    by_cases e:i=d
    .subst e;rw[zc]at hi';cases hi'
    .rw [zh _ _ e]at hi';exact⟨hi',e⟩
   .intro o' ho'
    have ho':upd (zba s.ob (some id)) d (some (AObj.barr e true (l.take m))) d=some o':=ho'
    rw[zc]at ho';cases ho'
    have hlen:(l.take m).length=m:=by simp;omega
    refine⟨ad,cap,by rw[hlen];exact zc _ _ _,⟨?_,?_,?_,?_⟩⟩
    .rw [hlen]
     refine⟨by simp;omega,?_⟩
     rcases hA.own.2 with⟨hv,hn0⟩|⟨g',cap',cur,hv,hz,hh,hnc',hcm,hcs,htk⟩
     .have:m=0:=by omega
      subst this
      rw[hn0]at hv
      exact .inl ⟨hv,rfl⟩
     .simp only[yP,Value.slice.injEq]at hv
      obtain⟨hv1,_,hv3⟩:=hv
      subst hv3
      refine .inr ⟨g',cap,cur,by simp only[yP];rw[hv1],hz,hh,by omega,hcm,hcs,?_⟩
      rw[Nat.mul_one]at htk ⊢
      rw[List.map_take,<-htk,List.take_take,Nat.min_eq_left hm]
    .exact zaE _
    .rw [hlen];exact Nat.le_trans hm hA.len
    .intro g hgg;exact hA.mem g hgg
   .intro i g g' b hi hob' hob2 hgi hgd hb hb'
    have hgd:upd γ d (some (.arr ad 1 m cap)) d=some g':=hgd
    rw[zc]at hgd;cases hgd
    have hob':upd (zba s.ob (some id)) d (some (AObj.barr e true (l.take m))) i≠none:=hob'
    rw[zh _ _ hi]at hob'
    obtain⟨q1,q2⟩:=zcK hob'
    rw[q1]at hob'
    have:=hs.sep i id g _ b hob' (by rw[hob];simp) hgi hg hb hb'
    exact q2 (by rw[this])
   .intro g b _ hgd hb
    have hgd:upd γ d (some (.arr ad 1 m cap)) d=some g:=hgd
    rw[zc]at hgd;cases hgd
    exact hs.lo id _ b (by rw[hob];simp) hg hb
  .rename_i e k0 c l k' hus hob hsz
   split at h
   .rename_i hkb
    have hkk:k0=k':=Nat.eq_of_beq_eq_true hkb
    subst hkk
    cases h
    cases hx with|cons ha hx=>
    cases hx with|cons hb hx=>
    obtain⟨ad,k,n,cap,hg,e1⟩:=ha.arr_inv
    have e2:=hb.int_inv.1
    obtain⟨ad',cap',vs,hg',hR,hA⟩:=hs.ob id _ hob
    rw[hg]at hg';cases hg'
    have hRn:(Rows.dat c l).n=l.length:=rfl
    rw[hRn]at hA hR hg
    obtain⟨h0,h1⟩:0<=hi/\hi<=(l.length:Int):=hok
    obtain⟨m,rfl⟩:=Int.eq_ofNat_of_zero_le h0
    have hm:m<=l.length:=by omega
    obtain⟨e',he',hs1⟩:=Option.bind_eq_some_iff.1 hsz
    obtain⟨i,hi1,hi2⟩:=zgz hs1
    have hu:=zam he'
    have hel:P.elem t=e':=by simp[Program.elem,hu]
    have hnc:l.length<=cap:=by
     rcases hA.own.2 with⟨hv,h0⟩|⟨g',cap',cur,hv,_,_,hnc,_⟩
     .omega
     .simp only[yP,Value.slice.injEq]at hv
      omega
    have hrun:(execOp ρ ⟨some d,.slice t x none (some y) none,type,pos,after,guard⟩).run P w=.ok (.value (yP ad m cap)) w:=by
     have hs2:=run_slice_h (P:=P) (w:=w) t (ad.map fun g=>⟨g,0,none⟩) l.length cap (by rw[hel];exact hu) kk (m:Int) (by omega) (by omega)
     have h3:=run_sliceAt_slice (P:=P) (w:=w) t (ρ x) none (some (ρ y)) none (by rw[hel];exact hu)
     rw[e1,e2]at h3
     simp only[execOp,Option.map_none,Option.map_some,e1,e2,Sem.run_bind]
     unfold yP at *
     rw[hRn]at h3 ⊢
     rw[h3,hs2,hel,yf hs1]
     simp only[Result.andThen_ok,sliced,Int.toNat_natCast,Nat.sub_zero,Nat.zero_mul]
     cases ad with
     | none=>simp
     | some g=>simp[zC]
    refine⟨yP ad m cap,upd γ d (some (.arr ad k0 m cap)),hrun,?_⟩
    have hγ:GLe γ (upd γ d (some (.arr ad k0 m cap))):=by
     intro i g' hi
     by_cases e:i=d
     .subst e;rw[hs.us i hus]at hi;cases hi
     .rw [zh _ _ e];exact hi
    have hlen:(Rows.dat c (l.take m)).n=m:=by show(l.take m).length=m;simp;omega
    refine hs.master (s':=yO s d (some id) (.larr e true k0 (.dat c (l.take m)))) hγ (MLe.refl M)
     (za2 (dst:=some d) (by rw[hs.nt];exact hd) (fun t=>(hs.sl t).mono hγ (MLe.refl M)) (.arr d _ _ _ _ (zc _ _ _))) (by rw[zae];exact hs.nt) (by rw[yB];exact hs.df) d
     ?_ (fun i hi=>zh _ _ hi) ?_ ?_ (fun _ _ _ _ _ _ _=>⟨rfl,rfl⟩) ?_ ?_ (Nat.le_refl _) hs.mem (fun _ _ _=>rfl) hs.fr
    .intro i hi
     show upd (zba s.ob (some id)) d _ i=none\/upd (zba s.ob (some id)) d _ i=s.ob i
     rw[zh _ _ hi]
     rcases Classical.em (zba s.ob (some id) i=none)with e|e
     .exact .inl e
     .exact .inr (zcK e).1
    .intro i hi
     have hi':upd s.us d true i=false:=hi
     by_cases e:i=d
     .subst e;rw[zc]at hi';cases hi'
     .rw [zh _ _ e]at hi';exact⟨hi',e⟩
    .intro o' ho'
     have ho':upd (zba s.ob (some id)) d (some (AObj.larr e true k0 (.dat c (l.take m)))) d=some o':=ho'
     rw[zc]at ho';cases ho'
     have hvl:vs.length=l.length*k0:=hA.own.1
     have hmk:m*k0<=l.length*k0:=Nat.mul_le_mul_right _ hm
     refine⟨ad,cap,vs.take (m*k0),by rw[hlen];exact zc _ _ _,?_,⟨?_,?_,?_,?_⟩⟩
     .intro i j hi hj
      rw[hlen]at hi
      obtain⟨v,hv,hr⟩:=hR i j (by omega) hj
      have hij:i*k0+j<m*k0:=by
       have:(i+1)*k0<=m*k0:=Nat.mul_le_mul_right _ hi
       rw[Nat.add_mul,Nat.one_mul]at this;omega
      refine⟨v,by rw[List.getElem?_take_of_lt hij];exact hv,?_⟩
      have e3:(Rows.dat c (l.take m)).f i j=(Rows.dat c l).f i j:=by
       show cell c ((l.take m).getD i (dfl c)) j=cell c (l.getD i (dfl c)) j
       rw[List.getD_eq_getElem?_getD,List.getD_eq_getElem?_getD,List.getElem?_take_of_lt hi]
      rw[e3];exact hr
     .rw [hlen]
      refine⟨by rw[List.length_take,hvl];omega,?_⟩
      rcases hA.own.2 with⟨hv,hn0⟩|⟨g',cap',cur,hv,hz,hh,hnc',hcm,hcs,htk⟩
      .have:m=0:=by omega
       subst this
       rw[hn0]at hv
       exact .inl ⟨hv,rfl⟩
      .simp only[yP,Value.slice.injEq]at hv
       obtain⟨hv1,_,hv3⟩:=hv
       subst hv3
       refine .inr ⟨g',cap,cur,by simp only[yP];rw[hv1],hz,hh,by omega,hcm,hcs,?_⟩
       rw[<-htk,List.take_take,Nat.min_eq_left hmk]
     .intro v hv;exact hA.one v (List.mem_of_mem_take hv)
     .rw [hlen];exact Nat.le_trans hm hA.len
     .intro g hgg;exact hA.mem g hgg
    .intro i g g' b hi hob' hob2 hgi hgd hb hb'
     have hgd:upd γ d (some (.arr ad k0 m cap)) d=some g':=hgd
     rw[zc]at hgd;cases hgd
     have hob':upd (zba s.ob (some id)) d (some (AObj.larr e true k0 (.dat c (l.take m)))) i≠none:=hob'
     rw[zh _ _ hi]at hob'
     obtain⟨q1,q2⟩:=zcK hob'
     rw[q1]at hob'
     have:=hs.sep i id g _ b hob' (by rw[hob];simp) hgi hg hb hb'
     exact q2 (by rw[this])
    .intro g b _ hgd hb
     have hgd:upd γ d (some (.arr ad k0 m cap)) d=some g:=hgd
     rw[zc]at hgd;cases hgd
     exact hs.lo id _ b (by rw[hob];simp) hg hb
   .cases h
  .cases h
 .cases h
def zt3(ob:Nat->Option AObj):AV->AV
 | .arr id=>match zbT ob (.arr id)with
  | some z=>z
  | none=>.arr id
 | x=>x
def zxK(ob:Nat->Option AObj):AV->AV
 | .agg cs=>.agg (cs.map (zt3 ob))
 | x=>zt3 ob x
theorem zmW(hs:StG C γ M s a w){x:AV}{v:Value}(hx:ARel γ M x v):ARel γ M (zt3 s.ob x) v:=by
 cases x with
 | arr id=>
  simp only[zt3]
  cases hz:zbT s.ob (.arr id)with
  | none=>exact hx
  | some z=>exact(yR hs hz hx).mono (fun _ _ hx=>by cases hx) (MLe.refl M)
 | _=>exact hx
theorem zvt(hs:StG C γ M s a w){x:AV}{v:Value}(hx:ARel γ M x v):ARel γ M (zxK s.ob x) v:=by
 cases x with
 | agg cs=>
  obtain⟨vs,rfl,hsz,hr⟩:=hx.agg_inv
  refine .agg _ _ (by simpa using hsz) fun i hi=>?_
  have hi':i<cs.length:=by simpa using hi
  have:=hr i hi'
  rw[List.getD_eq_getElem?_getD,List.getElem?_eq_getElem hi']at this
  rw[List.getD_eq_getElem?_getD,List.getElem?_map,List.getElem?_eq_getElem hi']
  exact zmW hs this
 | _=>exact zmW hs hx
theorem zvs(hs:StG C γ M s a w){xs:List AV}{vs:List Value}(hx:ARels γ M xs vs):ARels γ M (xs.map (zxK s.ob)) vs:=by
 induction hx with
 | nil=>exact .nil
 | cons h _ ih=>exact .cons (zvt hs h) ih
def zHA:Op->Bool
 | .buildSlice _ _ _=>true
 | _=>false
def zw(P:Program)(env:Env)(envR:zaK)(nt:Nat)(ops:Array Oper)(rs:List Nat)(i:Nat)(o:Oper)(s:S):Option (S×List Prop):=
 match yX i rs with
 | false=>yh P env nt ops o s
 | true=>match o.guard with
  | none=>match zzX o.op with
   | some (sT,d2)=>match o.dst,ziM P sT d2 (o.op.operands.toList.map (aev s.sl)),yu nt o.dst with
    | some d,some (ob,ok),true=>match s.us d with
     | false=>some (yq s d ob,oks none ok)
     | true=>none
    | _,_,_=>none
   | none=>match zuU o.op with
    | some t=>(zoW P nt o t s (o.op.operands.toList.map (aev s.sl))).map fun r=>(r.1,oks none r.2)
    | none=>match zHA o.op,yu nt o.dst with
     | true,true=>(evE P s o ((o.op.operands.toList.map (aev s.sl)).map (zxK s.ob))).map fun r=>(r.1,oks none r.2)
     | true,false=>none
     | false,_=>(evR envR nt o s (o.op.operands.toList.map (aev s.sl))).map fun r=>(r.1,oks none r.2)
  | some _=>match zD ops s.sl o,yu nt o.dst with
   | some (some c),true=>(evE P s o (zy (some c) o.op (o.op.operands.toList.map (aev s.sl))).1).map fun r=>(r.1,(zy (some c) o.op (o.op.operands.toList.map (aev s.sl))).2++((c=true)::oks none r.2))
   | _,_=>none
def zV(P:Program)(env:Env)(envR:zaK)(nt:Nat)(ops:Array Oper)(rs:List Nat):List Nat->S->Option (S×List Prop)
 | [],s=>some (s,[])
 | i::r,s=>match ops[i]? with
  | none=>none
  | some o=>match zw P env envR nt ops rs i o s with
   | none=>none
   | some (s1,p1)=>match zV P env envR nt ops rs r s1 with
    | none=>none
    | some (s2,p2)=>some (s2,p1++p2)
theorem zbQ{env:Env}(henv:yQ P env){envR:zaK}(henvR:zal P envR){ops:Array Oper}{rs:List Nat}{i:Nat}{o:Oper}{ps:List Prop}
 (h:zw P env envR C.nt ops rs i o s=some (s',ps)) (hps:All ps)
 (hs:St C s a w) {next:Act->World->Prop} {Q:Exit->Act->World->Prop} (hn:∀ a' w',St C s' a' w'->next a' w'):
 if Region.wanted o (yielded ops a.tmps) then o.wpIn (FW C.rd) 0 P a w next Q else next (a.put o.dst undef) w:=by
 unfold zw at h
 split at h
 .exact zfn henv h hps hs hn
 .split at h
  .rename_i hg
   have hw:Region.wanted o (yielded ops a.tmps)=true:=by unfold Region.wanted;rw[hg]
   split at h
   .rename_i sT d2 hconv
    split at h
    .rename_i d ob ok hdst hev hdok
     split at h
     .rename_i hus
      cases h
      obtain⟨γ,M,hs⟩:=hs
      rw[if_pos hw]
      obtain⟨x,hop⟩:=zrf hconv
      have hargs:ARels γ M (o.op.operands.toList.map (aev s.sl)) (o.op.operands.toList.map a.eval):=ARels.map (zdz hs.sl) _
      obtain⟨v,w',γ',M',hrun,hst⟩:=zmv (P:=P) hs o hdst (by rw[<-hdst];exact hdok) hus hop hev hargs
      refine yk hrun ?_
      rw[<-hdst]at hst
      exact hn _ _ ⟨γ',M',hst⟩
     .cases h
    .cases h
   split at h
   .rename_i t hcut
    obtain⟨⟨s1,ok⟩,he,hh⟩:=map_some h
    cases hh
    obtain⟨γ,M,hs⟩:=hs
    rw[if_pos hw]
    have hargs:ARels γ M (o.op.operands.toList.map (aev s.sl)) (o.op.operands.toList.map a.eval):=ARels.map (zdz hs.sl) _
    obtain⟨v,γ',hrun,hst⟩:=zmr (P:=P) hs o hcut he (by cases ok with|none=>trivial|some p=>exact hps.1) hargs
    refine yk hrun ?_
    exact hn _ _ ⟨γ',M,hst⟩
   split at h
   .rename_i hdk
    obtain⟨⟨s1,ok⟩,hE,hh⟩:=map_some h
    cases hh
    obtain⟨γ,M,hs⟩:=hs
    rw[if_pos hw]
    have hargs:ARels γ M (o.op.operands.toList.map (aev s.sl)) (o.op.operands.toList.map a.eval):=ARels.map (zdz hs.sl) _
    refine zdX hs o hdk hE ?_ (zvs hs hargs) fun γ' M' a' w' hst=>hn _ _ ⟨γ',M',hst⟩
    cases ok with
    | none=>trivial
    | some p=>exact hps.1
   .cases h
   obtain⟨⟨s1,ok⟩,he,hh⟩:=map_some h
   cases hh
   obtain⟨γ,M,hs⟩:=hs
   rw[if_pos hw]
   have hargs:ARels γ M (o.op.operands.toList.map (aev s.sl)) (o.op.operands.toList.map a.eval):=ARels.map (zdz hs.sl) _
   refine zwg henvR hs o he ?_ hargs hn
   cases ok with
   | none=>trivial
   | some p=>exact hps.1
  .split at h
   .rename_i c hg hd
    obtain⟨⟨s1,ok⟩,hE,he⟩:=map_some h
    cases he
    obtain⟨γ,M,hs⟩:=hs
    obtain⟨p1,hc,p2⟩:=All.append hps
    have hh:(Gd.holds (some c)):=hc
    obtain⟨hw1,_⟩:=zhz hs hg
    rw[if_pos (hw1 hh)]
    have hargs:ARels γ M (o.op.operands.toList.map (aev s.sl)) (o.op.operands.toList.map a.eval):=ARels.map (zdz hs.sl) _
    have hok:okP ok:=by
     cases ok with
     | none=>trivial
     | some p=>exact p2.1
    exact zdX hs o hd hE hok (zdo hh hargs p1) fun γ' M' a' w' hst=>hn _ _ ⟨γ',M',hst⟩
   .cases h
theorem zru{env:Env}(henv:yQ P env){envR:zaK}(henvR:zal P envR){ops:Array Oper}{rs:List Nat}{Q:Exit->Act->World->Prop}:∀ (l:List Nat) {s s':S} {ps:List Prop} {a:Act} {w:World},
 zV P env envR C.nt ops rs l s=some (s',ps)->All ps->St C s a w->(∀ a' w',St C s' a' w'->Q .normal a' w')->wpOpsIn (FW C.rd) 0 P ops Q l a w:=by
 intro l
 induction l with
 | nil=>intro s s' ps a w h hp hs hq;cases h;exact hq a w hs
 | cons i r ih=>
  intro s s' ps a w h hp hs hq
  simp only[zV]at h
  simp only[wpOpsIn]
  cases ho:ops[i]? with
  | none=>rw[ho]at h;cases h
  | some o=>
   rw[ho]at h
   dsimp only at h ⊢
   cases h1:zw P env envR C.nt ops rs i o s with
   | none=>rw[h1]at h;cases h
   | some q=>
    obtain⟨s1,p1⟩:=q
    rw[h1]at h
    dsimp only at h
    cases h2:zV P env envR C.nt ops rs r s1 with
    | none=>rw[h2]at h;cases h
    | some q=>
     obtain⟨s2,p2⟩:=q
     rw[h2]at h
     cases h
     obtain⟨hp1,hp2⟩:=All.append hp
     have:=zbQ henv henvR h1 hp1 hs (next:=wpOpsIn (FW C.rd) 0 P ops Q r) (Q:=Q) fun a' w' hs'=>ih h2 hp2 hs' hq
     split
     .rename_i hw;rw[if_pos hw]at this;exact this
     .rename_i hw;rw[if_neg hw]at this;exact⟨fun _ _=>trivial,this⟩
def zDD(P:Program)(env:Env)(envR:zaK)(nt:Nat)(rs:List Nat)(c:Code)(s:S)(rn:Rn)(l:List (Nat×AV)):Option (Bool×List AV×List (Option AObj)×List Prop):=
 match zfK c with
 | some (_,ops,d)=>match zV P env envR nt ops rs (List.range ops.size) s with
  | some (s',ps)=>some (d,(zpB rn l s').1,(zpB rn l s').2,ps)
  | none=>none
 | none=>none
end Go.Am
/-! A function's body gives its contract. -/
namespace Go.Am
open Go Go.RowKit
variable {P:Program}{γ γ':Nat->Option G}{M M':Mem}{C:Ctx}{s s':S}{a a':Act}{w w':World}
def zdh(P:Program)(s:S):ResultVar->Option AV
 | .tmp t=>some (s.sl t)
 | .cell t ty=>match zct P s.ob ty [s.sl t]with
  | some (r,none)=>some r
  | _=>none
def zd5(P:Program)(s:S)(rs:List ResultVar):Option AV:=
 match zx (zdh P s) rs with
 | some [r]=>some r
 | some l=>some (.tup l)
 | none=>none
theorem zl0(hs:StG C γ M s a w){rv:ResultVar}{r:AV}(h:zdh P s rv=some r):
 ∃ v,(zhe a.tmps rv).run P w=.ok v w/\ARel γ M r v:=by
 cases rv with
 | tmp t=>cases h;exact⟨_,rfl,hs.sl t⟩
 | cell t ty=>
  simp only[zdh]at h
  split at h
  .rename_i r' hl
   cases h
   obtain⟨u,hu,hr⟩:=zes (P:=P) hs hl trivial (hs.sl t)
   exact⟨u,zcB hu,hr⟩
  .cases h
theorem zeK(hs:StG C γ M s a w)(fn:Func){r:AV}(h:zd5 P s fn.results.toList=some r):
 ∃ v,(results fn a.tmps).run P w=.ok v w/\ARel γ M r v:=by
 have key:∀ (l:List ResultVar) (rs:List AV),zx (zdh P s) l=some rs->∃ vs:List Value,
  (l.mapM (zhe a.tmps)).run P w=.ok vs w/\ARels γ M rs vs:=by
  intro l
  induction l with
  | nil=>intro rs h;cases h;exact⟨[],rfl,.nil⟩
  | cons x l ih=>
   intro rs h
   simp only[zx]at h
   cases hx:zdh P s x with
   | none=>rw[hx]at h;cases h
   | some y=>
    cases hl:zx (zdh P s) l with
    | none=>rw[hx,hl]at h;cases h
    | some ys=>
     rw[hx,hl]at h;cases h
     obtain⟨v,hv,hr⟩:=zl0 (P:=P) hs hx
     obtain⟨vs,hvs,hrs⟩:=ih ys hl
     refine⟨v::vs,?_,.cons hr hrs⟩
     rw[List.mapM_cons]
     simp only[Sem.run_bind,hv,Sem.run_pure,Result.andThen_ok,hvs]
 unfold zd5 at h
 cases hl:zx (zdh P s) fn.results.toList with
 | none=>rw[hl]at h;cases h
 | some rs=>
  obtain⟨vs,hvs,hrs⟩:=key _ _ hl
  have hm:(fn.results.mapM (zhe a.tmps)).run P w=.ok vs.toArray w:=by
   rw[Array.mapM_eq_mapM_toList,Sem.run_map,hvs];rfl
  have hres:(results fn a.tmps).run P w=.ok (if h:vs.toArray.size=1 then vs.toArray[0] else .tuple vs.toArray) w:=by
   rw[zee,Sem.run_bind,hm]
   rfl
  rw[hl]at h
  refine⟨_,hres,?_⟩
  have hlen:=hrs.length
  split at h
  .rename_i r' heq
   cases heq;cases h
   cases hrs with
   | cons h1 h2=>cases h2 with|nil=>simpa using h1
  .rename_i l hne heq
   cases heq;cases h
   have hn1:vs.length≠1:=by
    intro e
    match rs,hlen with
    | [r],_=>exact hne r rfl
    | [],hl0=>simp at hl0;rw[hl0]at e;cases e
    | _::_::_,hl0=>simp at hl0;omega
   rw[dif_neg (by simpa using hn1)]
   refine .tup _ _ (by simp[hlen]) fun i hi=>?_
   have:=hrs.get i hi
   simpa[Array.getD_eq_getD_getElem?,List.getD_eq_getElem?_getD]using this
  .rename_i heq;cases heq
def zok(args:List AV)(ib:List (Nat×AObj)):S:={ sl:=fun i=>args.getD i .any,ob:=fun i=>ze i ib,us:=fun i=>(ze i ib).isSome }
def zdp(s:S)(outs:List (Nat×AObj)):Prop:=(outs.map fun p=>s.ob p.1)=outs.map fun p=>some p.2
def zDG(C:Ctx)(res:S->Prop)(outs:List (Nat×AObj)):Exit->S->Prop
 | .normal,s=>∃ s2,Sub C s s2/\res s2/\zdp s2 outs
 | .ret,s=>∃ s2,Sub C s s2/\res s2/\zdp s2 outs
 | _,_=>False
def zHI(P:Program)(C:Ctx)(rs:List ResultVar)(r:AV)(outs:List (Nat×AObj)):Exit->S->Prop:=zDG C (fun s=>zd5 P s rs=some r) outs
theorem zje{outs:List (Nat×AObj)}(h:zdp s outs){i:Nat}{o:AObj}(ho:ze i outs=some o):s.ob i=some o:=by
 have hm:=zaD ho
 unfold zdp at h
 clear ho
 induction outs with
 | nil=>cases hm
 | cons p l ih=>
  simp only[List.map_cons,List.cons.injEq]at h
  rcases List.mem_cons.1 hm with e|e
  .rw [<-e]at h;exact h.1
  .exact ih h.2 e
theorem zwP{f:FuncId}{fn:Func}{args:List AV}{ib:List (Nat×AObj)}{kept:List Nat}{r:AV}{outs:List (Nat×AObj)}{res:S->Prop}(hf:P.funcs[f]?=some fn)(hb:(fn.body.isSome,Nat.ble args.length fn.ntmps)=(true,true))
 (hsound:∀ {C:Ctx} {γ:Nat->Option G} {M:Mem} {s:S} {a:Act} {w:World},StG C γ M s a w->res s->∃ v,(results fn a.tmps).run P w=.ok v w/\ARel γ M r v)
 (h:∀ (γ:Nat->Option G) (M:Mem) (w:World) (vs:List Value),ARels γ M args vs->ziZ γ M w (fun i=>ze i ib) (fun b=>b<w.heap.size)->∀ C:Ctx,zaZ C fn.ntmps kept->T P C (at_ (zaV fn) []) (zok args ib) (zDG C res outs)):
 FnR P f args ib kept r outs:=by
 intro γ M w vs hO hnone hM hvs
 simp only[Prod.mk.injEq]at hb
 obtain⟨c,hc⟩:=Option.isSome_iff_exists.1 hb.1
 have hcb:zaV fn=c:=by unfold zaV;rw[hc];rfl
 have hn:=Nat.le_of_ble_eq_true hb.2
 let C:Ctx:={ w0:=w,M0:=M,own:=Handed γ ib,nt:=fn.ntmps,g0:=fun i=>match yX i kept with|true=>γ i|false=>none }
 have hg0:∀ i g,C.g0 i=some g->yX i kept=true/\γ i=some g:=by
  intro i g hg
  simp only[C]at hg
  split at hg
  .rename_i he;exact⟨he,hg⟩
  .cases hg
 have hC:zaZ C fn.ntmps kept:=⟨rfl,fun i g hg=>zaT.1 (hg0 i g hg).1⟩
 have hlen:=hvs.length
 have hst:St C (zok args ib) { tmps:=vs.toArray++Array.replicate (fn.ntmps-vs.toArray.size) undef,defers:=[] } w:=by
  refine⟨γ,M,?_,hO.ob,?_,hO.sep,?_,hM.toMOk,MLe.refl M,fun _ _ _=>rfl,⟨rfl,rfl,rfl,Nat.le_refl _,fun _ _ _=>rfl,hM.tabs,hM.hand⟩,rfl,?_,fun i g hg=>(hg0 i g hg).2⟩
  .intro t
   show ARel γ M (args.getD t .any) _
   by_cases ht:t<args.length
   .have:=hvs.get t ht
    have e:(vs.toArray++Array.replicate (fn.ntmps-vs.toArray.size) undef).getD t undef=vs.getD t undef:=by
     rw[Array.getD_eq_getD_getElem?,Array.getElem?_append_left (by simp;omega)]
     simp[List.getD_eq_getElem?_getD]
    rw[e];exact this
   .have e:args.getD t .any=.any:=by rw[List.getD_eq_getElem?_getD,List.getElem?_eq_none (by omega)];rfl
    rw[e];exact .any _
  .intro i hi
   have hi':(ze i ib).isSome=false:=hi
   refine hnone i ?_
   cases hl:ze i ib with
   | none=>rfl
   | some _=>rw[hl]at hi';cases hi'
  .intro id g b h1 h2 h3
   exact⟨.inr ⟨id,g,h1,h2,h3⟩,hO.lo id g b h1 h2 h3⟩
  .simp [C];omega
 have hT:=h γ M w vs hvs hO C hC
 rw[zdJ,hcb]at hT
 refine calls_of_wp hf hc (wpIn_wide (n:=0) |>.1 <| wpIn_mono (hT _ w hst) fun e a' w' ⟨s',hq,hs'⟩=>?_)
 have fin:(∃ s2,Sub C s' s2/\res s2/\zdp s2 outs)->a'.defers=[]/\∃ v,(results fn a'.tmps).run P w'=.ok v w'/\
  ∃ u γ' M',Ending.returned v=.returned u/\(∀ i ∈ kept,∀ g,γ i=some g->γ' i=some g)/\MLe M M'/\MOk M' w'/\ARel γ' M' r u/\
  ziZ γ' M' w' (fun i=>ze i outs) (fun b=>(w.heap.size<=b\/Handed γ ib b)/\b<w'.heap.size)/\
  (∀ b,b<w.heap.size->¬ Handed γ ib b->w'.heap[b]?=w.heap[b]?/\M' b=M b)/\w.heap.size<=w'.heap.size/\w'.os=w.os/\w'.tape=w.tape/\w'.output=w.output:=by
  rintro⟨s2,hsub,hr,ho⟩
  obtain⟨γ',M',hs2⟩:=hsub a' w' hs'
  obtain⟨v,hv,hrel⟩:=hsound hs2 hr
  have hne:∀ {i},ze i outs≠none->s2.ob i≠none:=by
   intro i hi
   cases hl:ze i outs with
   | none=>exact absurd hl hi
   | some o=>rw[zje ho hl];simp
  refine⟨hs2.df,v,hv,v,γ',M',rfl,fun i hi g hg=>hs2.gl i g ?_,hs2.le,hs2.mem,hrel,⟨fun i o hi=>hs2.ob i o (zje ho hi),fun i j g g' b hi hj=>hs2.sep i j g g' b (hne hi) (hne hj),fun i g b hi=>hs2.lo i g b (hne hi)⟩,
   fun b hb hh=>⟨hs2.fr.block b hb hh,hs2.new b hb hh⟩,hs2.fr.size,hs2.fr.os,hs2.fr.tape,hs2.fr.output⟩
  simp only[C]
  rw[zaT.2 hi];exact hg
 cases e with
 | normal=>exact fin hq
 | ret=>exact fin hq
 | _=>exact hq.elim
theorem zAH{f:FuncId}{fn:Func}{args:List AV}{ib:List (Nat×AObj)}{kept:List Nat}{r:AV}{outs:List (Nat×AObj)}(hf:P.funcs[f]?=some fn)(hb:(fn.body.isSome,Nat.ble args.length fn.ntmps)=(true,true))
 (h:∀ (γ:Nat->Option G) (M:Mem) (w:World) (vs:List Value),ARels γ M args vs->ziZ γ M w (fun i=>ze i ib) (fun b=>b<w.heap.size)->∀ C:Ctx,zaZ C fn.ntmps kept->T P C (at_ (zaV fn) []) (zok args ib) (zHI P C fn.results.toList r outs)):
 FnR P f args ib kept r outs:=
 zwP hf hb (fun hs hr=>zeK hs fn hr) h
def zgI(l:List (Nat×zma)):zaK:=fun f=>ze f l
theorem zb7{l:List (Nat×zma)}(h:All (l.map fun p=>zhY P p.1 p.2)):zal P (zgI l):=fun _ _ he=>zwW h _ (zaD he)
theorem zAm{a b:Bool}(h:a=true)(k:b=true):(a&&b)=true:=by rw[h,k];rfl
theorem zk7{b:Bool}(h:b=false):(!b)=true:=by rw[h];rfl
end Go.Am
/-! Drawn regions with calls that change memory. -/
namespace Go.Am
open Go Go.RowKit
variable {P:Program}{C:Ctx}{s s':S}{a a':Act}{w w':World}
end Go.Am
/-! An append ahead of a birth;the rule for drawn regions with the wider independence. -/
namespace Go.Am
open Go Go.RowKit
variable {P:Program}{γ γ':Nat->Option G}{M M':Mem}{C:Ctx}{s s':S}{a a':Act}{w w':World}
theorem zgX{op:Op}(h:zaW op=true):zc2 op=true:=by unfold zc2;rw[h];exact Bool.or_true _
theorem zA6{env:Env}{nt:Nat}{ops:Array Oper}{x y:Oper}{s s1 s2:S}{p1 p2:List Prop}(hap:Oper.apart ops y x=true)(hy:zU y.op=true)(hx:zaW x.op=true)(hsem:zbF s x)
 (h1:yh P env nt ops y s=some (s1,p1)) (h2:yh P env nt ops x s1=some (s2,p2)) (hp:All p2):
 ∃ s1',yh P env nt ops x s=some (s1',p2)/\yh P env nt ops y s1'=some (s2,p1):=by
 obtain⟨a1,a2,a3⟩:=zaj hap
 rw[zL (zbL (zcL hy))]at h1
 rw[zL (zbL (zgX hx))]at h2
 obtain⟨hv,e1,_,_⟩:=za3 h1
 obtain⟨hg,d,hdst,hdk,hu,hform⟩:=zb5 (zcL hy) h1
 obtain⟨hgx,dx,hdstx,hdkx,hux,hformx⟩:=zb5 (zgX hx) h2
 have hne:dx≠d:=fun e=>a2 d hdst (by rw[hdstx,e])
 have hargs:zA s1 x=zA s x:=by unfold zA;rw[e1];exact yz a1 s.sl hv
 have hgx':zD ops s.sl x=some none:=by rw[<-hgx,e1];exact(yY a1 s.sl hv).symm
 rcases hform with⟨hb,o,ok,hBy,ho,hs1,hp1⟩|⟨_,_,_,_,_,_,_,hop,_⟩
 .rcases hformx with⟨hbx,_⟩|⟨as,ts,t,tx,x',y',r,hop,ht,htx,hsz,hxs,hr,hs2,hp2⟩
  .exfalso
   unfold zaW at hx
   split at hx
   .rename_i hop;rw[hop]at hbx;cases hbx
   .cases hx
  .rw [hargs]at hxs hp2
   have hus:s.us dx=false:=by rw[hs1]at hux;exact(zh s.us true hne).symm.trans hux
   have hob:s.ob dx=none:=hsem.free dx hus
   rw[hp2]at hp
   obtain⟨γ,M,vs,hrel,hfree⟩:=hsem.rel (All.append hp).1
   rw[hxs]at hrel
   have hγ:=hfree d hu
   have kx:∀ i,x'=.arr i->i≠d:=by
    intro i e ei
    obtain⟨v,hv⟩:=hrel.head
    rw[e]at hv
    exact zcI hv (by rw[ei];exact hγ)
   have ky:∀ i,y'=.arr i->i≠d:=by
    intro i e ei
    obtain⟨vs',ht⟩:=hrel.tail
    obtain⟨v,hv⟩:=ht.head
    rw[e]at hv
    exact zcI hv (by rw[ei];exact hγ)
   have back:∀ i,i≠d->∀ o',s1.ob i=some o'->s.ob i=some o':=by
    intro i hi o' h
    rw[hs1]at h
    exact(zh s.ob _ hi).symm.trans h
   have hr':zaz P s.ob t tx [x',y']=some r:=zfd (fun i e=>back i (kx i e)) (fun i e=>back i (ky i e)) hr
   have hold:r.2.1≠some d:=fun e=>kx d (zet hr e).1 rfl
   refine⟨yO s dx r.2.1 r.1,?_,?_⟩
   .rw [zL (zbL (zgX hx)),zhH hgx' hdstx hdkx hus hop ht htx hsz hxs hr',hp2]
   .rw [zL (zbL (zcL hy))]
    have a3':∀ d,some dx=some d->d ∉ Oper.looksAt ops y:=fun d hd=>a3 d (by rw[hdstx];exact hd)
    have hgy:zD ops (yO s dx r.2.1 r.1).sl y=some none:=(yY (dst:=some dx) a3' s.sl _).trans hg
    have hargy:zA (yO s dx r.2.1 r.1) y=zA s y:=yz (dst:=some dx) a3' s.sl _
    have huy:(yO s dx r.2.1 r.1).us d=false:=(zh s.us true (fun e=>hne e.symm)).trans hu
    have hoy:(yO s dx r.2.1 r.1).ob d=none:=by
     refine(zh (zba s.ob r.2.1) _ (fun e=>hne e.symm)).trans ?_
     rw[zCx hold];exact ho
    rw[zfe hgy hdst hdk huy hb (by rw[hargy];exact hBy) hoy,hargy,hs2,hs1,hp1]
    unfold yq yO
    dsimp only
    rw[zaM s.sl _ _ hne,zq7 hold,zaM (zba s.ob r.2.1) _ _ hne,zaM s.us _ _ hne]
 .exact (zhS hy hop).elim
end Go.Am
/-! What is known of a state and an operation stays known over operations that it does not see. -/
namespace Go.Am
open Go Go.RowKit
variable {P:Program}{γ γ':Nat->Option G}{M M':Mem}{C:Ctx}{s s':S}{a a':Act}{w w':World}
theorem zoY{ob:Nat->Option AObj}{t:TypeId}{xs:List AV}{r:Nat×AObj×Option Prop}(h:zfb P ob t xs=some r):ob r.1≠none:=by
 unfold zfb at h
 split at h
 .split at h
  .split at h
   .cases h;simp[*]
   .cases h
  .cases h
 .cases h
theorem zqX{ob:Nat->Option AObj}{t:TypeId}{xs:List AV}{r:Nat×AObj×Option Prop}(h:zdv P ob t xs=some r):ob r.1≠none:=by
 unfold zdv at h
 split at h
 .rename_i id off x
  split at h
  .split at h
   .cases h;simp[*]
   .cases h
  .split at h
   .cases h;simp[*]
   .cases h
  .cases h
 .rename_i id i j x
  split at h
  .split at h
   .cases h;simp[*]
   .cases h
  .split at h
   .cases h;simp[*]
   .cases h
  .split at h
   .split at h
    .split at h
     .cases h;simp[*]
     .cases h
    .cases h
   .cases h
  .cases h
 .cases h
theorem zbF.step{env:Env}{nt:Nat}{ops:Array Oper}{x y:Oper}{s s1:S}{p1:List Prop}(hap:Oper.apart ops y x=true)(h1:yh P env nt ops y s=some (s1,p1))(hsem:zbF s x):zbF s1 x:=by
 obtain⟨a1,_,_⟩:=zaj hap
 have fin:∀ s1:S,(∃ v,s1.sl=zX s.sl y.dst v)->(∀ d,s1.us d=false->s.us d=false)->(∀ d,s1.us d=false->s1.ob d=none)->zbF s1 x:=by
  rintro s1 ⟨v,hs⟩ hu ho
  have hargs:zA s1 x=zA s x:=by unfold zA;rw[hs];exact yz a1 s.sl v
  refine⟨ho,?_⟩
  rw[hargs]
  intro hp
  obtain⟨γ,M,vs,h1,h2⟩:=hsem.rel hp
  exact⟨γ,M,vs,h1,fun d hd=>h2 d (hu d hd)⟩
 cases ey:zah y.op with
 | false=>
  rw[zP ey]at h1
  obtain⟨ry,hy,he⟩:=map_some h1
  cases he
  exact fin _ ⟨ry.v,rfl⟩ (fun d hd=>hd) (fun d hd=>hsem.free d hd)
 | true=>
  rw[zL ey]at h1
  obtain⟨hv,e1,_,_⟩:=za3 h1
  by_cases hm:zc2 y.op=true
  .obtain ⟨_,d,hdst,_,hu,hform⟩:=zb5 hm h1
   have key:∀ i,(upd s.us d true) i=false->i≠d/\s.us i=false:=by
    intro i hi
    have:i≠d:=by intro e;rw[e,zc]at hi;cases hi
    exact⟨this,(zh s.us true this).symm.trans hi⟩
   rcases hform with⟨_,o,ok,_,ho,hs1,_⟩|⟨_,_,_,_,_,_,r,_,_,_,_,_,_,hs1,_⟩
   .refine fin _ ⟨hv,e1⟩ (fun i hi=>?_) (fun i hi=>?_)
    .rw [hs1]at hi;exact(key i hi).2
    .rw [hs1]at hi ⊢
     obtain⟨h2,h3⟩:=key i hi
     exact(zh s.ob _ h2).trans (hsem.free i h3)
   .refine fin _ ⟨hv,e1⟩ (fun i hi=>?_) (fun i hi=>?_)
    .rw [hs1]at hi;exact(key i hi).2
    .rw [hs1]at hi ⊢
     obtain⟨h2,h3⟩:=key i hi
     refine(zh (zba s.ob r.2.1) _ h2).trans ?_
     cases hq:r.2.1 with
     | none=>exact hsem.free i h3
     | some j=>
      unfold zba
      by_cases e:i=j
      .rw [e];exact zc _ _ _
      .exact (zh s.ob _ e).trans (hsem.free i h3)
  . -- a store
   unfold zdw at h1
   split at h1
   .obtain ⟨⟨s2,ok⟩,hE,he⟩:=map_some h1
    cases he
    unfold evE at hE
    split at hE
    .rename_i t xx yy hop
     split at hE
     .obtain ⟨r,hr,he⟩:=map_some hE
      cases he
      refine fin _ ⟨hv,e1⟩ (fun i hi=>hi) (fun i hi=>?_)
      have hi':s.us i=false:=hi
      have:i≠r.1:=by intro e;exact zqX hr (e ▸ hsem.free i hi')
      exact(zh s.ob _ this).trans (hsem.free i hi')
     .cases hE
    .rename_i t xx yy zz hop
     split at hE
     .obtain ⟨r,hr,he⟩:=map_some hE
      cases he
      refine fin _ ⟨hv,e1⟩ (fun i hi=>hi) (fun i hi=>?_)
      have hi':s.us i=false:=hi
      have:i≠r.1:=by intro e;exact zoY hr (e ▸ hsem.free i hi')
      exact(zh s.ob _ this).trans (hsem.free i hi')
     .cases hE
    .rename_i as ts hop
     exact absurd (by rw[hop];rfl) hm
    .rename_i hn1 hn3 hn2
     exfalso
     refine hm ?_
     cases hop:y.op <;> rw[hop]at ey <;> first|rfl|(simp only[zah,zU,reduceCtorEq]at ey)
     .exact absurd hop (hn1 _ _ _)
     .exact absurd hop (hn3 _ _ _ _)
     .rename_i c
      obtain⟨callee,args,ts⟩:=c
      cases callee with
      | builtin b=>
       cases b <;> first
        | rfl
        | (simp only[reduceCtorEq]at ey)
      | value f=>simp only[reduceCtorEq]at ey
      | invoke r m=>simp only[reduceCtorEq]at ey
   .cases h1
end Go.Am
/-! The rule for drawn regions, with the wider independence. -/
namespace Go.Am
open Go Go.RowKit
variable {P:Program}{C:Ctx}{s s':S}{a a':Act}{w w':World}
def zoF(ops:Array Oper)(y x:Oper):Bool:=
 Oper.apart ops y x&&x.guard.isNone&&((zc2 y.op&&!zah x.op)||(zc2 y.op&&zU x.op)||(zU y.op&&zaW x.op))
def zdF(ops:Array Oper)(rs:List Nat)(y x:Nat)(oy ox:Oper):Bool:=!yX y rs&&!yX x rs&&(ziD ops oy ox||zoF ops oy ox)
theorem zdu{ops:Array Oper}{rs:List Nat}{y x:Nat}{oy ox:Oper}(h:zdF ops rs y x oy ox=true):yX y rs=false/\yX x rs=false/\(ziD ops oy ox=true\/zoF ops oy ox=true)/\Oper.apart ops oy ox=true:=by
 unfold zdF at h
 simp only[Bool.and_eq_true,Bool.not_eq_true',Bool.or_eq_true]at h
 obtain⟨⟨h1,h2⟩,h3⟩:=h
 refine⟨h1,h2,h3,?_⟩
 rcases h3 with h3|h3
 .unfold ziD at h3;rw[Bool.and_eq_true]at h3;exact h3.1
 .unfold zoF at h3;simp only[Bool.and_eq_true]at h3;exact h3.1.1
theorem zxz{env:Env}{envR:zaK}{rs:List Nat}{nt:Nat}{ops:Array Oper}{x y:Nat}{ox oy:Oper}{s s1 s2:S}{p1 p2:List Prop}(hi:zdF ops rs y x oy ox=true)(hsem:zbF s ox)
 (h1:zw P env envR nt ops rs y oy s=some (s1,p1)) (h2:zw P env envR nt ops rs x ox s1=some (s2,p2)) (hp:All p2):
 ∃ s1',zw P env envR nt ops rs x ox s=some (s1',p2)/\zw P env envR nt ops rs y oy s1'=some (s2,p1):=by
 obtain⟨hy,hx,hk,hap⟩:=zdu hi
 unfold zw at *
 rw[hy]at h1 ⊢
 rw[hx]at h2 ⊢
 rcases hk with hk|hk
 .exact swap hk h1 h2
 .unfold zoF at hk
  simp only[Bool.and_eq_true,Bool.or_eq_true,Bool.not_eq_true',Option.isNone_iff_eq_none]at hk
  obtain⟨⟨_,hg⟩,(⟨hm,hv⟩|⟨hm,hb⟩)|⟨hb,ha⟩⟩:=hk
  .exact zA4 hap hm hv hg hsem h1 h2 hp
  .exact zA5 hap hm hb hsem h1 h2
  .exact zA6 hap hb ha hsem h1 h2 hp
theorem zbF.stepW{env:Env}{envR:zaK}{rs:List Nat}{nt:Nat}{ops:Array Oper}{x y:Nat}{ox oy:Oper}{s s1:S}{p1:List Prop}(hi:zdF ops rs y x oy ox=true)
 (h1:zw P env envR nt ops rs y oy s=some (s1,p1)) (hsem:zbF s ox):zbF s1 ox:=by
 obtain⟨hy,_,_,hap⟩:=zdu hi
 unfold zw at h1
 rw[hy]at h1
 exact zbF.step hap h1 hsem
def zf5(ops:Array Oper)(rs:List Nat):Bool:=
 (List.range ops.size).all fun x=>(List.range x).all fun y=>
  ((zhn ops.toList []).getD x 0).testBit y||(match ops[y]?,ops[x]? with
   | some oy,some ox=>zdF ops rs y x oy ox
   | _,_=>false)
theorem zo5{ops:Array Oper}{rs:List Nat}(h:zf5 ops rs=true){x y:Nat}{ox oy:Oper}(hxy:y<x)(hx:ops[x]?=some ox)(hy:ops[y]?=some oy)
 {listed:Nat->Bool} (hc:Closed ops listed) (hd:zC7 ops listed x) (hny:listed y=false):zdF ops rs y x oy ox=true:=by
 unfold zf5 at h
 have hlt:x<ops.size:=(Array.getElem?_eq_some_iff.1 hx).1
 have h1:=List.all_eq_true.1 h x (List.mem_range.2 hlt)
 have h2:=List.all_eq_true.1 h1 y (List.mem_range.2 hxy)
 rw[hx,hy]at h2
 rw[Bool.or_eq_true]at h2
 rcases h2 with h2|h2
 .exfalso
  cases hm:(zhn ops.toList [])[x]? with
  | none=>rw[List.getD_eq_getElem?_getD,hm]at h2;simp at h2
  | some m=>
   rw[List.getD_eq_getElem?_getD,hm]at h2
   have:=zhm (ops:=ops) ops.toList [] (fun i o ho=>by simpa using ho) (fun x m hx=>by simp at hx) x m hm listed hc hd y h2
   rw[hny]at this;cases this
 .exact h2
theorem zu0{env:Env}{envR:zaK}{rs:List Nat}{nt:Nat}{ops:Array Oper}{x:Nat}{ox:Oper}(hx:ops[x]?=some ox):∀ (l1 l2:List Nat) (s s':S) (ps:List Prop),
 (∀ y ∈ l1,∀ oy,ops[y]?=some oy->zdF ops rs y x oy ox=true)->zbF s ox->All ps->zV P env envR nt ops rs (l1++x::l2) s=some (s',ps)->
 ∃ s1 p1 p2,zw P env envR nt ops rs x ox s=some (s1,p1)/\zV P env envR nt ops rs (l1++l2) s1=some (s',p2)/\(All p1/\All p2)
 | [],l2,s,s',ps,_,_,hps,h=>by
  simp only[List.nil_append,zV,hx]at h ⊢
  cases h1:zw P env envR nt ops rs x ox s with
  | none=>rw[h1]at h;cases h
  | some q=>
   obtain⟨s1,p1⟩:=q
   rw[h1]at h
   dsimp only at h
   cases h2:zV P env envR nt ops rs l2 s1 with
   | none=>rw[h2]at h;cases h
   | some q=>
    obtain⟨s2,p2⟩:=q
    rw[h2]at h;cases h
    exact⟨s1,p1,p2,rfl,h2,All.append hps⟩
 | y::l1,l2,s,s',ps,hi,hsem,hps,h=>by
  simp only[List.cons_append,zV]at h
  cases hy:ops[y]? with
  | none=>rw[hy]at h;cases h
  | some oy=>
   rw[hy]at h
   dsimp only at h
   cases h1:zw P env envR nt ops rs y oy s with
   | none=>rw[h1]at h;cases h
   | some q=>
    obtain⟨s1,p1⟩:=q
    rw[h1]at h
    dsimp only at h
    cases h2:zV P env envR nt ops rs (l1++x::l2) s1 with
    | none=>rw[h2]at h;cases h
    | some q=>
     obtain⟨s2,p2⟩:=q
     rw[h2]at h;cases h
     obtain⟨u1,u2⟩:=All.append hps
     have hind:=hi y (List.mem_cons_self ..) oy hy
     have hsem1:=zbF.stepW hind h1 hsem
     obtain⟨t1,q1,q2,b1,b2,b3,b4⟩:=zu0 hx l1 l2 s1 s' p2 (fun y' hy'=>hi y' (List.mem_cons_of_mem _ hy')) hsem1 u2 h2
     obtain⟨t0,c1,c2⟩:=zxz hind hsem h1 b1 b3
     refine⟨t0,q1,p1++q2,c1,?_,b3,All.mk u1 b4⟩
     simp only[List.cons_append,zV,hy,c2,b2]
theorem zwG{env:Env}(henv:yQ P env){envR:zaK}(henvR:zal P envR){rs:List Nat}{ops:Array Oper}(hk:zf5 ops rs=true){Q:Exit->Act->World->Prop}{s':S}
 (hq:∀ a' w',St C s' a' w'->Q .normal a' w'):∀ (fuel:Nat) (listed:Array Bool) (l:List Nat) (s:S) (ps:List Prop) (a:Act) (w:World),
 listed.size=ops.size->(∀ i,i ∈ l↔i<ops.size/\listed.getD i true=false)->l.Pairwise (·<·)->Closed ops (lsF listed)->l.length<=fuel->
 zV P env envR C.nt ops rs l s=some (s',ps)->All ps->St C s a w->(∀ (x:Nat) (o:Oper),ops[x]?=some o->∀ e ∈ o.after,Region.binds .any e=true->e.on<x)->wpAnyIn (FW C.rd) 0 P .any ops Q fuel listed a w:=by
 intro fuel
 induction fuel with
 | zero=>
  intro listed l s ps a w hsz hl hsort hcl hle h hps hs hbk
  have:l=[]:=List.length_eq_zero_iff.1 (Nat.le_zero.1 hle)
  subst this
  cases h
  refine⟨?_,hq a w hs⟩
  refine List.eq_nil_iff_forall_not_mem.2 fun j hj=>?_
  obtain⟨h0,o,ho,_⟩:=mem_ready.1 hj
  exact absurd ((hl j).2 ⟨(Array.getElem?_eq_some_iff.1 ho).1,h0⟩) (by simp)
 | succ fuel ih=>
  intro listed l s ps a w hsz hl hsort hcl hle h hps hs hbk
  refine⟨fun hr=>?_,fun x hx=>?_⟩
  .cases l with
   | nil=>cases h;exact hq a w hs
   | cons x r=>
    exfalso
    have hxm:=(hl x).1 (List.mem_cons_self ..)
    have hox:ops[x]?=some ops[x]:=Array.getElem?_eq_getElem hxm.1
    have:x ∈ Region.ready .any ops listed:=by
     refine mem_ready.2 ⟨hxm.2,_,hox,fun e he hbi=>?_⟩
     have hlt:=hbk x _ hox e he hbi
     cases hle':listed.getD e.on false with
     | true=>rfl
     | false=>
      exfalso
      have he2:e.on<ops.size:=Nat.lt_trans hlt hxm.1
      have hmem:e.on ∈ x::r:=by
       refine(hl e.on).2 ⟨he2,?_⟩
       have hlt3:e.on<listed.size:=by rw[hsz];exact he2
       simpa[Array.getD,hlt3]using hle'
      rcases List.mem_cons.1 hmem with h3|h3
      .omega
      .have:=List.rel_of_pairwise_cons hsort h3
       omega
    rw[hr]at this;cases this
  .obtain ⟨h0,ox,hox,hall⟩:=mem_ready.1 hx
   have hlt:=(Array.getElem?_eq_some_iff.1 hox).1
   obtain⟨l1,l2,rfl,hl1⟩:=zgk hsort ((hl x).2 ⟨hlt,h0⟩)
   have hind:∀ y ∈ l1,∀ oy,ops[y]?=some oy->zdF ops rs y x oy ox=true:=fun y hy oy hoy=>by
    refine zo5 hk (hl1 y hy) hox hoy hcl ?_ ?_
    .intro o ho e he hb
     rw[hox]at ho;cases ho
     exact hall e he hb
    .have:=((hl y).1 (List.mem_append_left _ hy)).2
     have hy2:y<listed.size:=by rw[hsz];exact((hl y).1 (List.mem_append_left _ hy)).1
     simp only[lsF]
     simpa[Array.getD,hy2]using this
   obtain⟨s1,p1,p2,b1,b2,hp1,hp2⟩:=zu0 hox l1 l2 s s' ps hind (hs.sem ox) hps h
   have step:=zbQ henv henvR b1 hp1 hs (next:=wpAnyIn (FW C.rd) 0 P .any ops Q fuel (listed.setIfInBounds x true)) (Q:=Q) fun a' w' hs'=>by
    have hpw:=List.pairwise_append.1 hsort
    refine ih (listed.setIfInBounds x true) (l1++l2) s1 p2 a' w' (by simpa using hsz) (fun i=>?_) ?_ ?_ ?_ b2 hp2 hs' hbk
    .have hi:=hl i
     by_cases hix:x=i
     .subst hix
      have hxs:x<listed.size:=by rw[hsz];exact hlt
      constructor
      .intro hm
       exfalso
       rcases List.mem_append.1 hm with hm|hm
       .exact absurd (hl1 x hm) (by omega)
       .have:=List.rel_of_pairwise_cons hpw.2.1 hm
        omega
      .rintro ⟨_,hh⟩
       simp[hxs]at hh
     .rw [getD_set_ne true hix,<-hi]
      simp only[List.mem_append,List.mem_cons]
      constructor
      .rintro (h|h)
       .exact .inl h
       .exact .inr (.inr h)
      .rintro (h|h|h)
       .exact .inl h
       .exact absurd h.symm hix
       .exact .inr h
    .exact List.Pairwise.sublist (List.Sublist.append (List.Sublist.refl _) (List.sublist_cons_self ..)) hsort
    .intro y hy o ho e he hb
     simp only[lsF]at hy ⊢
     by_cases hyx:x=y
     .subst hyx
      rw[hox]at ho;cases ho
      exact getD_set_true (hall e he hb)
     .rw [getD_set_ne false hyx]at hy
      exact getD_set_true (hcl y hy o ho e he hb)
    .simp only[List.length_append,List.length_cons]at hle ⊢
     omega
   unfold wpOpIn
   rw[hox]
   dsimp only
   split
   .rename_i hw;rw[if_pos hw]at step;exact step
   .rename_i hw;rw[if_neg hw]at step;exact⟨fun _ _=>trivial,step⟩
def zeA(ops:Array Oper):Bool:=(List.range ops.size).all fun x=>match ops[x]? with
 | some o=>o.after.all fun e=>!Region.binds .any e||Nat.blt e.on x
 | none=>true
theorem zez{ops:Array Oper}(h:zeA ops=true):∀ (x:Nat) (o:Oper),ops[x]?=some o->∀ e ∈ o.after,Region.binds .any e=true->e.on<x:=by
 intro x o ho e he hb
 have h1:=List.all_eq_true.1 h x (List.mem_range.2 (Array.getElem?_eq_some_iff.1 ho).1)
 rw[ho]at h1
 have:=Array.all_eq_true_iff_forall_mem.1 h1 e he
 rw[hb]at this
 simpa[Nat.blt_eq]using this
theorem zl8{env:Env}(henv:yQ P env){envR:zaK}(henvR:zal P envR){rs:List Nat}(hm:P.follows .mixedOrders=true){id:Nat}{ops:Array Oper}{Q:Exit->S->Prop}{ps:List Prop}
 (hk:zf5 ops rs=true) (hb:zeA ops=true)
 (h:zV P env envR C.nt ops rs (List.range ops.size) s=some (s',ps)) (hp:All ps) (hq:Q .normal s'):T P C (.region id ops true) s Q:=by
 intro a w hs
 refine wpIn_region_any hm ?_
 refine zwG henv henvR hk (fun a' w' hs'=>⟨s',hq,hs'⟩) ops.size _ (List.range ops.size) s ps a _ (by simp) (fun i=>?_) List.pairwise_lt_range ?_ (by simp) h hp hs.drew (zez hb)
 .simp only[List.mem_range]
  constructor
  .intro hi;exact⟨hi,by simp[hi]⟩
  .exact fun h=>h.1
 .intro x hx
  exfalso
  simp only[lsF]at hx
  rw[Array.getD_eq_getD_getElem?,Array.getElem?_replicate]at hx
  split at hx <;> simp at hx
def zzH(c:Code)(rs:List Nat):Bool:=match zfK c with
 | some (_,ops,true)=>zf5 ops rs&&zeA ops
 | _=>false
theorem zu5{env:Env}(henv:yQ P env){envR:zaK}(henvR:zal P envR)(hm:P.follows .mixedOrders=true){nt:Nat}{fx:List Nat}(hC:zaZ C nt fx)(rs:List Nat){c:Code}{Q:Exit->S->Prop}(rn:Rn)(l:List (Nat×AV))(o:List (Nat×AObj))(ps:List Prop)
 (h:zDD P env envR nt rs c s rn l=some (true,(zi4 rn l o).1,(zi4 rn l o).2,ps)) (hd:zzH c rs=true) (hk:(o.map (·.1),okB fx rn l o)=(rn.map (·.1),true)) (hp:All ps) (hq:∀ s',Sub C s' (mkS l o)->Q .normal s'):
 T P C c s Q:=by
 have hnt:=hC.nt
 subst hnt
 unfold zDD at h
 unfold zzH at hd
 cases hr:zfK c with
 | none=>rw[hr]at h;cases h
 | some r=>
  obtain⟨id,ops,d⟩:=r
  rw[hr]at h hd
  dsimp only at h
  cases ha:zV P env envR C.nt ops rs (List.range ops.size) s with
  | none=>rw[ha]at h;cases h
  | some q=>
   obtain⟨s',ps'⟩:=q
   rw[ha]at h
   simp only[Option.some.injEq,Prod.mk.injEq]at h
   obtain⟨rfl,h1,h2,rfl⟩:=h
   have hc:=zhf hr
   rw[hc]
   have hv:zpB rn l s'=zi4 rn l o:=Prod.ext h1 h2
   simp only[Prod.mk.injEq]at hk
   simp only[Bool.and_eq_true]at hd
   exact zl8 henv henvR hm hd.1 hd.2 ha hp (hq s' (zbh hC rn hk.1 hv hk.2))
end Go.Am
/-! Drawn regions in which one pair of operations is neither ordered nor independent: both orders are run. -/
namespace Go.Am
open Go Go.RowKit
variable {P:Program}{C:Ctx}{s s':S}{a a':Act}{w w':World}
theorem zCn{envR:zaK}{nt:Nat}{o:Oper}{xs:List AV}{ok:Option Prop}(h:evR envR nt o s xs=some (s',ok)):
 ∃ hv:AV,s'.sl=zX s.sl o.dst hv/\∀ σ,evR envR nt o { s with sl:=σ } xs=some ({ s' with sl:=zX σ o.dst hv },ok):=by
 unfold evR at h
 split at h
 .split at h
  .split at h
   .try dsimp only at h
    split at h
    .split at h
     .try dsimp only at h
      split at h
      .cases h
       refine⟨_,rfl,fun σ=>?_⟩
       unfold evR
       simp only[*]
      .cases h
     .cases h
    .cases h
   .cases h
  .cases h
 .cases h
def zz6:Op->Bool
 | .call ⟨.value _,_,_⟩=>true
 | _=>false
theorem zjB{env:Env}{envR:zaK}{nt:Nat}{ops:Array Oper}{rs:List Nat}{i:Nat}{o:Oper}(hi:yX i rs=true)(hg:o.guard=none)(hc:zz6 o.op=true)(s:S):
 zw P env envR nt ops rs i o s=(evR envR nt o s (o.op.operands.toList.map (aev s.sl))).map fun r=>(r.1,oks none r.2):=by
 unfold zw
 rw[hi]
 dsimp only
 rw[hg]
 dsimp only
 cases hop:o.op <;> rw[hop]at hc <;> first|cases hc|rfl
def zoG(ops:Array Oper)(rs:List Nat)(y x:Nat)(oy ox:Oper):Bool:=
 !yX y rs&&yX x rs&&zz6 ox.op&&ox.guard.isNone&&Oper.apart ops oy ox&&zaf oy.op
theorem zFG{env:Env}{envR:zaK}{rs:List Nat}{nt:Nat}{ops:Array Oper}{x y:Nat}{ox oy:Oper}{s s1 s2:S}{p1 p2:List Prop}(hi:zoG ops rs y x oy ox=true)
 (h1:zw P env envR nt ops rs y oy s=some (s1,p1)) (h2:zw P env envR nt ops rs x ox s1=some (s2,p2)):
 ∃ s1',zw P env envR nt ops rs x ox s=some (s1',p2)/\zw P env envR nt ops rs y oy s1'=some (s2,p1):=by
 unfold zoG at hi
 simp only[Bool.and_eq_true,Bool.not_eq_true',Option.isNone_iff_eq_none]at hi
 obtain⟨⟨⟨⟨⟨hy,hx⟩,hc⟩,hg⟩,hap⟩,hp⟩:=hi
 obtain⟨a1,a2,a3⟩:=zaj hap
 have ey:zah oy.op=false:=by cases hop:oy.op <;> rw[hop]at hp <;> first|rfl|(simp only[zaf,reduceCtorEq]at hp)
 have hyA:∀ s,zw P env envR nt ops rs y oy s=yh P env nt ops oy s:=fun s=>by unfold zw;rw[hy]
 rw[hyA,zP ey]at h1
 obtain⟨ry,hry,he⟩:=map_some h1
 cases he
 rw[zjB hx hg hc]at h2
 obtain⟨⟨s2',ok⟩,hE,he⟩:=map_some h2
 cases he
 obtain⟨hv,e1,e2⟩:=zCn hE
 have hargs:ox.op.operands.toList.map (aev (zX s.sl oy.dst ry.v))=ox.op.operands.toList.map (aev s.sl):=yz a1 s.sl ry.v
 have hE':=e2 s.sl
 have e0:({ zcu s oy.dst ry.v with sl:=s.sl }:S)=s:=rfl
 rw[e0]at hE'
 have hargs2:ox.op.operands.toList.map (aev (zcu s oy.dst ry.v).sl)=ox.op.operands.toList.map (aev s.sl):=hargs
 rw[hargs2]at hE'
 refine⟨{ s2' with sl:=zX s.sl ox.dst hv },by rw[zjB hx hg hc,hE'];rfl,?_⟩
 rw[hyA,zP ey]
 have:yv P env nt ops oy (zX s.sl ox.dst hv) s2'.ob=some ry:=by
  rw[zbn (P:=P) a3,zgx (ob':=s.ob) hp];exact hry
 show(yv P env nt ops oy (zX s.sl ox.dst hv) s2'.ob).map _=_
 rw[this]
 simp only[Option.map_some,zcu]
 have e4:zX (zX s.sl ox.dst hv) oy.dst ry.v=s2'.sl:=by
  rw[e1]
  show _=zX (zX s.sl oy.dst ry.v) ox.dst hv
  rw[zbv hv ry.v (fun d hd e=>a2 d e hd)]
 rw[e4]
def ze5(ops:Array Oper)(rs:List Nat)(y x:Nat)(oy ox:Oper):Bool:=zdF ops rs y x oy ox||zoG ops rs y x oy ox
theorem zFC{env:Env}{envR:zaK}{rs:List Nat}{nt:Nat}{ops:Array Oper}{x y:Nat}{ox oy:Oper}{s s1 s2:S}{p1 p2:List Prop}(hi:ze5 ops rs y x oy ox=true)(hsem:zbF s ox)
 (h1:zw P env envR nt ops rs y oy s=some (s1,p1)) (h2:zw P env envR nt ops rs x ox s1=some (s2,p2)) (hp:All p2):
 ∃ s1',zw P env envR nt ops rs x ox s=some (s1',p2)/\zw P env envR nt ops rs y oy s1'=some (s2,p1):=by
 unfold ze5 at hi
 rw[Bool.or_eq_true]at hi
 rcases hi with hi|hi
 .exact zxz hi hsem h1 h2 hp
 .exact zFG hi h1 h2
theorem zbF.stepX{env:Env}{envR:zaK}{rs:List Nat}{nt:Nat}{ops:Array Oper}{x y:Nat}{ox oy:Oper}{s s1:S}{p1:List Prop}(hi:ze5 ops rs y x oy ox=true)
 (h1:zw P env envR nt ops rs y oy s=some (s1,p1)) (hsem:zbF s ox):zbF s1 ox:=by
 unfold ze5 at hi
 rw[Bool.or_eq_true]at hi
 rcases hi with hi|hi
 .exact zbF.stepW hi h1 hsem
 .unfold zoG at hi
  simp only[Bool.and_eq_true,Bool.not_eq_true']at hi
  unfold zw at h1
  rw[hi.1.1.1.1.1]at h1
  exact zbF.step hi.1.2 h1 hsem
theorem zpi{env:Env}{envR:zaK}{rs:List Nat}{nt:Nat}{ops:Array Oper}{x:Nat}{ox:Oper}(hx:ops[x]?=some ox):∀ (l1 l2:List Nat) (s s':S) (ps:List Prop),
 (∀ y ∈ l1,∀ oy,ops[y]?=some oy->ze5 ops rs y x oy ox=true)->zbF s ox->All ps->zV P env envR nt ops rs (l1++x::l2) s=some (s',ps)->
 ∃ s1 p1 p2,zw P env envR nt ops rs x ox s=some (s1,p1)/\zV P env envR nt ops rs (l1++l2) s1=some (s',p2)/\(All p1/\All p2)
 | [],l2,s,s',ps,_,_,hps,h=>by
  simp only[List.nil_append,zV,hx]at h ⊢
  cases h1:zw P env envR nt ops rs x ox s with
  | none=>rw[h1]at h;cases h
  | some q=>
   obtain⟨s1,p1⟩:=q
   rw[h1]at h
   dsimp only at h
   cases h2:zV P env envR nt ops rs l2 s1 with
   | none=>rw[h2]at h;cases h
   | some q=>
    obtain⟨s2,p2⟩:=q
    rw[h2]at h;cases h
    exact⟨s1,p1,p2,rfl,h2,All.append hps⟩
 | y::l1,l2,s,s',ps,hi,hsem,hps,h=>by
  simp only[List.cons_append,zV]at h
  cases hy:ops[y]? with
  | none=>rw[hy]at h;cases h
  | some oy=>
   rw[hy]at h
   dsimp only at h
   cases h1:zw P env envR nt ops rs y oy s with
   | none=>rw[h1]at h;cases h
   | some q=>
    obtain⟨s1,p1⟩:=q
    rw[h1]at h
    dsimp only at h
    cases h2:zV P env envR nt ops rs (l1++x::l2) s1 with
    | none=>rw[h2]at h;cases h
    | some q=>
     obtain⟨s2,p2⟩:=q
     rw[h2]at h;cases h
     obtain⟨u1,u2⟩:=All.append hps
     have hind:=hi y (List.mem_cons_self ..) oy hy
     have hsem1:=zbF.stepX hind h1 hsem
     obtain⟨t1,q1,q2,b1,b2,b3,b4⟩:=zpi hx l1 l2 s1 s' p2 (fun y' hy'=>hi y' (List.mem_cons_of_mem _ hy')) hsem1 u2 h2
     obtain⟨t0,c1,c2⟩:=zFC hind hsem h1 b1 b3
     refine⟨t0,q1,p1++q2,c1,?_,b3,All.mk u1 b4⟩
     simp only[List.cons_append,zV,hy,c2,b2]
def zx9(ops:Array Oper)(rs:List Nat)(y x:Nat):Bool:=
 ((zhn ops.toList []).getD x 0).testBit y||(match ops[y]?,ops[x]? with
  | some oy,some ox=>ze5 ops rs y x oy ox
  | _,_=>false)
def zst(ops:Array Oper)(y x:Nat):Bool:=
 match ops[y]? with
 | some o=>o.after.all fun e=>!Region.binds .any e||!Nat.beq e.on x
 | none=>true
def zdP(f:Nat->Nat->Bool):List Nat->Bool
 | []=>true
 | y::r=>r.all (f y)&&zdP f r
theorem zcX{f:Nat->Nat->Bool}:∀ {l:List Nat},zdP f l=true->l.Pairwise fun y x=>f y x=true
 | [],_=>.nil
 | y::r,h=>by
  simp only[zdP,Bool.and_eq_true]at h
  exact .cons (fun x hx=>List.all_eq_true.1 h.1 x hx) (zcX h.2)
abbrev zpu(ops:Array Oper)(listed:Array Bool)(l:List Nat):Prop:=∀ i,i ∈ l↔i<ops.size/\listed.getD i true=false
theorem zeW{ops:Array Oper}{listed:Array Bool}{l1 l2:List Nat}{x:Nat}(hsz:listed.size=ops.size)(hlt:x<ops.size)(hl:zpu ops listed (l1++x::l2))(hnd:(l1++x::l2).Nodup):zpu ops (listed.setIfInBounds x true) (l1++l2):=by
 intro i
 have hi:=hl i
 by_cases hix:x=i
 .subst hix
  have hxs:x<listed.size:=by rw[hsz];exact hlt
  constructor
  .intro hm
   exfalso
   rw[List.nodup_append]at hnd
   rcases List.mem_append.1 hm with hm|hm
   .exact hnd.2.2 x hm x (List.mem_cons_self ..) rfl
   .exact (List.nodup_cons.1 hnd.2.1).1 hm
  .rintro ⟨_,hh⟩
   simp[hxs]at hh
 .rw [getD_set_ne true hix,<-hi]
  simp only[List.mem_append,List.mem_cons]
  constructor
  .rintro (h|h)
   .exact .inl h
   .exact .inr (.inr h)
  .rintro (h|h|h)
   .exact .inl h
   .exact absurd h.symm hix
   .exact .inr h
theorem zew{ops:Array Oper}{listed:Array Bool}{x:Nat}{ox:Oper}(hox:ops[x]?=some ox)(hcl:Closed ops (lsF listed))(hall:∀ e ∈ ox.after,Region.binds .any e=true->listed.getD e.on false=true):Closed ops (lsF (listed.setIfInBounds x true)):=by
 intro y hy o ho e he hb
 simp only[lsF]at hy ⊢
 by_cases hyx:x=y
 .subst hyx
  rw[hox]at ho;cases ho
  exact getD_set_true (hall e he hb)
 .rw [getD_set_ne false hyx]at hy
  exact getD_set_true (hcl y hy o ho e he hb)
theorem zm5{ops:Array Oper}{rs:List Nat}{listed:Array Bool}{x y:Nat}{ox oy:Oper}(hsz:listed.size=ops.size)(h:zx9 ops rs y x=true)(hox:ops[x]?=some ox)(hoy:ops[y]?=some oy)
 (hcl:Closed ops (lsF listed)) (hall:∀ e ∈ ox.after,Region.binds .any e=true->listed.getD e.on false=true) (hny:y<ops.size/\listed.getD y true=false):ze5 ops rs y x oy ox=true:=by
 unfold zx9 at h
 rw[hox,hoy,Bool.or_eq_true]at h
 rcases h with h|h
 .exfalso
  cases hm:(zhn ops.toList [])[x]? with
  | none=>rw[List.getD_eq_getElem?_getD,hm]at h;simp at h
  | some m=>
   rw[List.getD_eq_getElem?_getD,hm]at h
   have:=zhm (ops:=ops) ops.toList [] (fun i o ho=>by simpa using ho) (fun x m hx=>by simp at hx) x m hm (lsF listed) hcl (fun o ho e he hb=>by rw[hox]at ho;cases ho;exact hall e he hb) y h
   simp only[lsF]at this
   have hy2:y<listed.size:=by rw[hsz];exact hny.1
   have h2:=hny.2
   simp only[Array.getD,hy2,dif_pos]at this h2
   rw[this]at h2;cases h2
 .exact h
theorem zlp{ops:Array Oper}{listed:Array Bool}{x:Nat}{r:List Nat}(hsz:listed.size=ops.size)(hl:zpu ops listed (x::r))(hb:∀ z ∈ r,zst ops x z=true)
 (hbk:∀ (x:Nat) (o:Oper),ops[x]?=some o->∀ e ∈ o.after,Region.binds .any e=true->e.on<x):x ∈ Region.ready .any ops listed:=by
 have hxm:=(hl x).1 (List.mem_cons_self ..)
 have hox:ops[x]?=some ops[x]:=Array.getElem?_eq_getElem hxm.1
 refine mem_ready.2 ⟨hxm.2,_,hox,fun e he hbi=>?_⟩
 have hlt:=hbk x _ hox e he hbi
 cases hle':listed.getD e.on false with
 | true=>rfl
 | false=>
  exfalso
  have he2:e.on<ops.size:=Nat.lt_trans hlt hxm.1
  have hmem:e.on ∈ x::r:=by
   refine(hl e.on).2 ⟨he2,?_⟩
   have hlt3:e.on<listed.size:=by rw[hsz];exact he2
   simpa[Array.getD,hlt3]using hle'
  rcases List.mem_cons.1 hmem with h3|h3
  .omega
  .have h4:=hb _ h3
   unfold zst at h4
   rw[hox]at h4
   have h5:=Array.all_eq_true_iff_forall_mem.1 h4 e he
   rw[hbi]at h5
   simp at h5
abbrev okX(ops:Array Oper)(rs:List Nat)(ex:Nat->Nat->Bool)(y x:Nat):Bool:=(zx9 ops rs y x||ex y x)&&zst ops y x
theorem znO{env:Env}(henv:yQ P env){envR:zaK}(henvR:zal P envR){rs:List Nat}{ops:Array Oper}{Q:Exit->Act->World->Prop}{s':S}
 (hq:∀ a' w',St C s' a' w'->Q .normal a' w') (hbk:∀ (x:Nat) (o:Oper),ops[x]?=some o->∀ e ∈ o.after,Region.binds .any e=true->e.on<x):∀ (fuel:Nat) (listed:Array Bool) (l:List Nat) (s:S) (ps:List Prop) (a:Act) (w:World),
 listed.size=ops.size->zpu ops listed l->l.Nodup->l.Pairwise (fun y x=>okX ops rs (fun _ _=>false) y x=true)->Closed ops (lsF listed)->l.length<=fuel->
 zV P env envR C.nt ops rs l s=some (s',ps)->All ps->St C s a w->wpAnyIn (FW C.rd) 0 P .any ops Q fuel listed a w:=by
 intro fuel
 induction fuel with
 | zero=>
  intro listed l s ps a w hsz hl hnd hpw hcl hle h hps hs
  have:l=[]:=List.length_eq_zero_iff.1 (Nat.le_zero.1 hle)
  subst this
  cases h
  refine⟨?_,hq a w hs⟩
  refine List.eq_nil_iff_forall_not_mem.2 fun j hj=>?_
  obtain⟨h0,o,ho,_⟩:=mem_ready.1 hj
  exact absurd ((hl j).2 ⟨(Array.getElem?_eq_some_iff.1 ho).1,h0⟩) (by simp)
 | succ fuel ih=>
  intro listed l s ps a w hsz hl hnd hpw hcl hle h hps hs
  refine⟨fun hr=>?_,fun x hx=>?_⟩
  .cases l with
   | nil=>cases h;exact hq a w hs
   | cons x r=>
    exfalso
    have:x ∈ Region.ready .any ops listed:=zlp hsz hl (fun z hz=>by
     have:=List.rel_of_pairwise_cons hpw hz
     unfold okX at this
     rw[Bool.and_eq_true]at this;exact this.2) hbk
    rw[hr]at this;cases this
  .obtain ⟨h0,ox,hox,hall⟩:=mem_ready.1 hx
   have hlt:=(Array.getElem?_eq_some_iff.1 hox).1
   obtain⟨l1,l2,rfl⟩:=List.append_of_mem ((hl x).2 ⟨hlt,h0⟩)
   have hpp:=List.pairwise_append.1 hpw
   have hind:∀ y ∈ l1,∀ oy,ops[y]?=some oy->ze5 ops rs y x oy ox=true:=fun y hy oy hoy=>by
    have h1:=hpp.2.2 y hy x (List.mem_cons_self ..)
    unfold okX at h1
    simp only[Bool.or_false,Bool.and_eq_true]at h1
    exact zm5 hsz h1.1 hox hoy hcl hall ((hl y).1 (List.mem_append_left _ hy))
   obtain⟨s1,p1,p2,b1,b2,hp1,hp2⟩:=zpi hox l1 l2 s s' ps hind (hs.sem ox) hps h
   have step:=zbQ henv henvR b1 hp1 hs (next:=wpAnyIn (FW C.rd) 0 P .any ops Q fuel (listed.setIfInBounds x true)) (Q:=Q) fun a' w' hs'=>
    ih (listed.setIfInBounds x true) (l1++l2) s1 p2 a' w' (by simpa using hsz) (zeW hsz hlt hl hnd) (hnd.sublist (List.Sublist.append (List.Sublist.refl _) (List.sublist_cons_self ..)))
     (List.Pairwise.sublist (List.Sublist.append (List.Sublist.refl _) (List.sublist_cons_self ..)) hpw) (zew hox hcl hall) (by simp only[List.length_append,List.length_cons]at hle ⊢;omega) b2 hp2 hs'
   unfold wpOpIn
   rw[hox]
   dsimp only
   split
   .rename_i hw;rw[if_pos hw]at step;exact step
   .rename_i hw;rw[if_neg hw]at step;exact⟨fun _ _=>trivial,step⟩
def exP(p q:Nat)(y x:Nat):Bool:=Nat.beq y p&&Nat.beq x q
theorem zwI{env:Env}(henv:yQ P env){envR:zaK}(henvR:zal P envR){rs:List Nat}{ops:Array Oper}{Q:Exit->Act->World->Prop}{sA sB:S}{p q:Nat}(hne:p≠q)
 (hqA:∀ a' w',St C sA a' w'->Q .normal a' w') (hqB:∀ a' w',St C sB a' w'->Q .normal a' w') (hbk:∀ (x:Nat) (o:Oper),ops[x]?=some o->∀ e ∈ o.after,Region.binds .any e=true->e.on<x):
 ∀ (fuel:Nat) (listed:Array Bool) (lA lB:List Nat) (s:S) (psA psB:List Prop) (a:Act) (w:World),
 listed.size=ops.size->zpu ops listed lA->zpu ops listed lB->lA.Nodup->lB.Nodup->lA.Pairwise (fun y x=>okX ops rs (exP p q) y x=true)->lB.Pairwise (fun y x=>okX ops rs (exP q p) y x=true)->
 Closed ops (lsF listed)->lA.length<=fuel->lB.length<=fuel->
 zV P env envR C.nt ops rs lA s=some (sA,psA)->zV P env envR C.nt ops rs lB s=some (sB,psB)->All psA->All psB->St C s a w->wpAnyIn (FW C.rd) 0 P .any ops Q fuel listed a w:=by
 intro fuel
 induction fuel with
 | zero=>
  intro listed lA lB s psA psB a w hsz hlA hlB hnA hnB hpA hpB hcl hleA hleB hA hB hpsA hpsB hs
  have:lA=[]:=List.length_eq_zero_iff.1 (Nat.le_zero.1 hleA)
  subst this
  cases hA
  refine⟨?_,hqA a w hs⟩
  refine List.eq_nil_iff_forall_not_mem.2 fun j hj=>?_
  obtain⟨h0,o,ho,_⟩:=mem_ready.1 hj
  exact absurd ((hlA j).2 ⟨(Array.getElem?_eq_some_iff.1 ho).1,h0⟩) (by simp)
 | succ fuel ih=>
  intro listed lA lB s psA psB a w hsz hlA hlB hnA hnB hpA hpB hcl hleA hleB hA hB hpsA hpsB hs
  have split2:∀ {l:List Nat} {x:Nat},zpu ops listed l->x<ops.size/\listed.getD x true=false->∃ l1 l2,l=l1++x::l2:=fun hl h=>List.append_of_mem ((hl _).2 h)
  refine⟨fun hr=>?_,fun x hx=>?_⟩
  .cases lA with
   | nil=>cases hA;exact hqA a w hs
   | cons x r=>
    exfalso
    have:x ∈ Region.ready .any ops listed:=zlp hsz hlA (fun z hz=>by
     have:=List.rel_of_pairwise_cons hpA hz
     unfold okX at this
     rw[Bool.and_eq_true]at this;exact this.2) hbk
    rw[hr]at this;cases this
  .obtain ⟨h0,ox,hox,hall⟩:=mem_ready.1 hx
   have hlt:=(Array.getElem?_eq_some_iff.1 hox).1
   have go:∀ {l1 l2:List Nat} {sE:S} {psE:List Prop} {u v:Nat},zpu ops listed (l1++x::l2)->(l1++x::l2).Pairwise (fun y x=>okX ops rs (exP u v) y x=true)->x≠v->zV P env envR C.nt ops rs (l1++x::l2) s=some (sE,psE)->All psE->
    ∃ s1 p1 p2,zw P env envR C.nt ops rs x ox s=some (s1,p1)/\zV P env envR C.nt ops rs (l1++l2) s1=some (sE,p2)/\(All p1/\All p2):=by
    intro l1 l2 sE psE u v hl hpw hxv h hps
    have hpp:=List.pairwise_append.1 hpw
    refine zpi hox l1 l2 s sE psE (fun y hy oy hoy=>?_) (hs.sem ox) hps h
    have h1:=hpp.2.2 y hy x (List.mem_cons_self ..)
    unfold okX exP at h1
    rw[Bool.and_eq_true,Bool.or_eq_true]at h1
    rcases h1.1 with h1|h1
    .exact zm5 hsz h1 hox hoy hcl hall ((hl y).1 (List.mem_append_left _ hy))
    .rw [Bool.and_eq_true]at h1
     exact absurd (Nat.eq_of_beq_eq_true h1.2) hxv
   have fin:∀ {s1:S} {p1:List Prop},zw P env envR C.nt ops rs x ox s=some (s1,p1)->All p1->(∀ a' w',St C s1 a' w'->wpAnyIn (FW C.rd) 0 P .any ops Q fuel (listed.setIfInBounds x true) a' w')->
    wpOpIn (FW C.rd) 0 P ops Q x (wpAnyIn (FW C.rd) 0 P .any ops Q fuel (listed.setIfInBounds x true)) a w:=by
    intro s1 p1 b1 hp1 hn
    have step:=zbQ henv henvR b1 hp1 hs (next:=wpAnyIn (FW C.rd) 0 P .any ops Q fuel (listed.setIfInBounds x true)) (Q:=Q) hn
    unfold wpOpIn
    rw[hox]
    dsimp only
    split
    .rename_i hw;rw[if_pos hw]at step;exact step
    .rename_i hw;rw[if_neg hw]at step;exact⟨fun _ _=>trivial,step⟩
   obtain⟨a1,a2,rfl⟩:=split2 hlA ⟨hlt,h0⟩
   obtain⟨b1,b2,rfl⟩:=split2 hlB ⟨hlt,h0⟩
   have subA:(a1++a2).Sublist (a1++x::a2):=List.Sublist.append (List.Sublist.refl _) (List.sublist_cons_self ..)
   have subB:(b1++b2).Sublist (b1++x::b2):=List.Sublist.append (List.Sublist.refl _) (List.sublist_cons_self ..)
   have one:∀ {l1 l2:List Nat} {u v:Nat},(l1++x::l2).Nodup->(l1++x::l2).Pairwise (fun y x=>okX ops rs (exP u v) y x=true)->x=u->(l1++l2).Pairwise (fun y x=>okX ops rs (fun _ _=>false) y x=true):=by
    intro l1 l2 u v hnd hpw hxu
    have h1:=List.Pairwise.sublist (List.Sublist.append (List.Sublist.refl l1) (List.sublist_cons_self x l2)) hpw
    have hnx:∀ y ∈ l1++l2,y≠x:=by
     intro y hy e
     subst e
     rw[List.nodup_append]at hnd
     rcases List.mem_append.1 hy with hm|hm
     .exact hnd.2.2 y hm y (List.mem_cons_self ..) rfl
     .exact (List.nodup_cons.1 hnd.2.1).1 hm
    refine(List.pairwise_iff_forall_sublist.2 fun {y z} hyz=>?_)
    have h2:=List.pairwise_iff_forall_sublist.1 h1 hyz
    unfold okX exP at h2
    unfold okX
    rw[Bool.and_eq_true,Bool.or_eq_true]at h2
    rw[Bool.or_false,Bool.and_eq_true]
    refine⟨?_,h2.2⟩
    rcases h2.1 with h3|h3
    .exact h3
    .rw [Bool.and_eq_true]at h3
     exact absurd ((Nat.eq_of_beq_eq_true h3.1).trans hxu.symm) (hnx y (hyz.subset (by simp)))
   have lenA:(a1++a2).length<=fuel:=by simp only[List.length_append,List.length_cons]at hleA ⊢;omega
   have lenB:(b1++b2).length<=fuel:=by simp only[List.length_append,List.length_cons]at hleB ⊢;omega
   by_cases hxq:x=q
   . -- 'q' comes first:the second order
    have hpq:x≠p:=fun e=>hne (e.symm.trans hxq)
    obtain⟨s1,p1,p2,c1,c2,hp1,hp2⟩:=go hlB hpB hpq hB hpsB
    refine fin c1 hp1 fun a' w' hs'=>znO henv henvR hqB hbk fuel _ (b1++b2) s1 p2 a' w' (by simpa using hsz) (zeW hsz hlt hlB hnB) (hnB.sublist subB) (one hnB hpB hxq) (zew hox hcl hall) lenB c2 hp2 hs'
   .obtain ⟨s1,p1,p2,c1,c2,hp1,hp2⟩:=go hlA hpA hxq hA hpsA
    by_cases hxp:x=p
    .refine fin c1 hp1 fun a' w' hs'=>znO henv henvR hqA hbk fuel _ (a1++a2) s1 p2 a' w' (by simpa using hsz) (zeW hsz hlt hlA hnA) (hnA.sublist subA) (one hnA hpA hxp) (zew hox hcl hall) lenA c2 hp2 hs'
    .obtain ⟨s1',p1',p2',d1,d2,hp1',hp2'⟩:=go hlB hpB hxp hB hpsB
     rw[c1]at d1
     cases d1
     exact fin c1 hp1 fun a' w' hs'=>ih _ (a1++a2) (b1++b2) s1 p2 p2' a' w' (by simpa using hsz) (zeW hsz hlt hlA hnA) (zeW hsz hlt hlB hnB) (hnA.sublist subA) (hnB.sublist subB)
      (List.Pairwise.sublist subA hpA) (List.Pairwise.sublist subB hpB) (zew hox hcl hall) lenA lenB c2 d2 hp2 hp2' hs'
def zo7(ops:Array Oper)(rs:List Nat)(p q:Nat)(lB:List Nat):Bool:=
 !Nat.beq p q&&(zdP (okX ops rs (exP p q)) (List.range ops.size)&&(zdP (okX ops rs (exP q p)) lB&&(zaF lB&&((List.range ops.size).all (fun i=>yX i lB)&&(lB.all (fun i=>Nat.blt i ops.size)&&Nat.ble lB.length ops.size)))))
theorem zjg:∀ {l:List Nat},zaF l=true->l.Nodup
 | [],_=>.nil
 | x::r,h=>by
  simp only[zaF,Bool.and_eq_true]at h
  refine List.nodup_cons.2 ⟨fun hm=>?_,zjg h.2⟩
  have h1:=h.1
  simp[]at h1
  first|exact h1 x hm rfl|(have:=h1 x hm;simp at this)|(have:=h1 hm;simp at this)
theorem ztA{env:Env}(henv:yQ P env){envR:zaK}(henvR:zal P envR){rs:List Nat}(hm:P.follows .mixedOrders=true){id:Nat}{ops:Array Oper}{Q:Exit->S->Prop}{sA sB:S}{psA psB:List Prop}{p q:Nat}{lB:List Nat}
 (hk:zo7 ops rs p q lB=true) (hb:zeA ops=true)
 (hA:zV P env envR C.nt ops rs (List.range ops.size) s=some (sA,psA)) (hB:zV P env envR C.nt ops rs lB s=some (sB,psB)) (hpA:All psA) (hpB:All psB) (hqA:Q .normal sA) (hqB:Q .normal sB):T P C (.region id ops true) s Q:=by
 intro a w hs
 unfold zo7 at hk
 simp only[Bool.and_eq_true,Bool.not_eq_true']at hk
 obtain⟨h0,h1,h2,h3,h4,h5,h6⟩:=hk
 have hne:p≠q:=fun e=>by rw[e,Nat.beq_refl]at h0;cases h0
 have hnB:=zjg h3
 have hin:∀ i,i ∈ lB↔i<ops.size:=fun i=>⟨fun hi=>Nat.le_of_ble_eq_true (List.all_eq_true.1 h5 i hi),fun hi=>zaT.1 (List.all_eq_true.1 h4 i (List.mem_range.2 hi))⟩
 have hlen:lB.length<=ops.size:=Nat.le_of_ble_eq_true h6
 have pend:∀ {l:List Nat},(∀ i,i ∈ l↔i<ops.size)->zpu ops (Array.replicate ops.size false) l:=by
  intro l hl i
  rw[hl i]
  constructor
  .intro hi;exact⟨hi,by simp[hi]⟩
  .exact fun h=>h.1
 refine wpIn_region_any hm ?_
 refine zwI henv henvR hne (fun a' w' hs'=>⟨sA,hqA,hs'⟩) (fun a' w' hs'=>⟨sB,hqB,hs'⟩) (zez hb) ops.size _ (List.range ops.size) lB s psA psB a _ (by simp) (pend fun i=>List.mem_range) (pend hin) List.nodup_range hnB
  (zcX h1) (zcX h2) ?_ (by simp) hlen hA hB hpA hpB hs.drew
 intro x hx
 exfalso
 simp only[lsF]at hx
 rw[Array.getD_eq_getD_getElem?,Array.getElem?_replicate]at hx
 split at hx <;> simp at hx
end Go.Am
