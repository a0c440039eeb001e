/-
  An abstract machine over texts and its soundness; no condition of its own.
-/
import Derived.RangeFuncRecord
import Derived.RangeFuncLeaves
import Derived.Test.YtfidlcpfbinncaaGreatDoorAmD
set_option linter.unusedVariables false
noncomputable section
/-! A range over a function: the statement, a round, a call of yield. -/
namespace Go.Am
open Go Go.RowKit
variable {P:Program}{C C':Ctx}{s s':S}{a a':Act}{w w' w2:World}{γ γ':Nat->Option G}{M M':Mem}
theorem StG.reroot(h:StG C γ M s a w)(e0:C'.w0=w2)(eM:C'.M0=M)(hown:∀ id g b,s.ob id≠none->γ id=some g->g.blk=some b->C'.own b/\w2.heap[b]?=w.heap[b]?)
 (hsz:w.heap.size<=w2.heap.size) (hmem:MOk M w2) (ht:a'.tmps=a.tmps) (hd:a'.defers=C'.dl) (hnt:C'.nt=C.nt) (hg:GLe C'.g0 γ) (htab:TabC C'):StG C' γ M s a' w2:=by
 refine⟨fun t=>by rw[ht];exact h.sl t,fun id o ho=>(h.ob id o ho).keep (GLe.refl γ) (MLe.refl M) fun g b h1 h2=>⟨(hown id g b (by rw[ho];simp) h1 h2).2,rfl⟩,h.us,h.sep,
  fun id g b h1 h2 h3=>⟨.inr (hown id g b h1 h2 h3).1,Nat.lt_of_lt_of_le (h.lo id g b h1 h2 h3).2 hsz⟩,hmem,by rw[eM];exact MLe.refl M,fun _ _ _=>by rw[eM],
  ⟨by rw[e0],by rw[e0],by rw[e0],by rw[e0];exact Nat.le_refl _,fun _ _ _=>by rw[e0],htab⟩,hd,by rw[ht,hnt];exact h.nt,hg⟩
theorem MOk.none_of{b q:Nat}(h:MOk M w)(hb:w.cell? ⟨b,q,none⟩=none):M b q=none:=by
 cases hm:M b q with
 | none=>rfl
 | some v=>have:=h b q v hm;rw[hb]at this;cases this
theorem MOk.put{l:Nat}{o:Obj}(h:MOk M w)(hn:∀ q,M l q=none):MOk M (w.putObj l o):=by
 refine⟨?_,h.good⟩
 intro b q v hv
 have hb:b≠l:=by rintro rfl;rw[hn]at hv;cases hv
 have h1:=h b q v hv
 unfold World.cell? at *
 rw[World.putObj_heap_other hb];exact h1
theorem MOk.dfr{b q:Nat}{r:Option (List Deferred)}(h:MOk M w)(hb:w.heap[b]?=some (.deferred r)):M b q=none:=by
 refine h.none_of ?_
 unfold World.cell?
 rw[hb]
abbrev zb0(D:Nat):Deferred:={ target:=.collected D,args:=#[] }
theorem zbH{g:Operand}{ps:Array Tmp}{assign body:Code}{Q:Exit->Act->World->Prop}{gf:FuncId}{lb:Array Value}(hg:a.eval g=.func (.func gf) #[] lb)(eg:zR P gf=true)
 (h:∀ (fn:FuncId) (mkR:LoopState->Option Code->Loop),mkR=(fun st pe=>{ state:=st,pending:=pe,fn,tmps:=a.tmps,params:=ps,assign,body,defers:=w.heap.size })->
  Calls P gf (#[.func (.yield (w.heap.size+1)) #[] #[]]++lb) ((w.alloc (.deferred (some []))).alloc (.loop (mkR .ready none))) fun e W2=>(∃ v,e=.returned v)/\
   ((W2.heap[w.heap.size+1]?=some (.loop (mkR .ready none))/\Q .normal { a with defers:=zb0 w.heap.size::a.defers } (W2.putObj (w.heap.size+1) (.loop (mkR .exhausted none))))\/
    (∃ c,W2.heap[w.heap.size+1]?=some (.loop (mkR .done (some c)))/\c.wpIn (FW none) 0 P Q { a with defers:=zb0 w.heap.size::a.defers } (W2.putObj (w.heap.size+1) (.loop (mkR .exhausted (some c))))))):
 (Code.rangeFunc g ps assign body).wpIn (FW none) 0 P Q a w:=by
 refine wpIn_rangeFunc fun fn _=>?_
 obtain⟨mkR,hR⟩:∃ mkR:LoopState->Option Code->Loop,mkR=fun st pe=>{ state:=st,pending:=pe,fn,tmps:=a.tmps,params:=ps,assign,body,defers:=w.heap.size }:=⟨_,rfl⟩
 obtain⟨W1,hW1⟩:∃ W1,(w.alloc (.deferred (some []))).alloc (.loop (mkR .ready none))=W1:=⟨_,rfl⟩
 have hc:=h fn mkR hR
 rw[hW1]at hc
 refine⟨w.heap.size+1,[zb0 w.heap.size],W1,{ target:=.fn (.func gf) lb,args:=#[.func (.yield (w.heap.size+1)) #[] #[]] },W1,gf,
  #[.func (.yield (w.heap.size+1)) #[] #[]]++lb,W1,?_,?_,fun _ _=>trivial,?_,(fun h=>nomatch h),?_⟩
 .rw [<-hW1,hR];exact run_enterLoop_outer _ _ _ _ _
 .simp only[resolve,hg]
  simp[go_sem]
 .simp [invoke,go_sem,ym eg]
 .refine zbs.2 (hc.mono ?_)
  rintro e W2 ⟨⟨v,rfl⟩,⟨hl,hq⟩|⟨c,hl,hq⟩⟩
  .refine ⟨none,_,?_,hq⟩
   have:=run_endLoop (P:=P) hl (by rw[hR];simp)
   rw[hR]at this ⊢;exact this
  .refine ⟨some c,_,?_,hq⟩
   have:=run_endLoop (P:=P) hl (by rw[hR];simp)
   rw[hR]at this ⊢;exact this
def zhd(l:Nat)(r:Loop)(R:Option Code->World->Prop):Exit->Act->World->Prop
 | .normal,_,W=>W.heap[l]?=some (.loop { r with state:=.busy })/\R none W
 | .ret,_,W=>W.heap[l]?=some (.loop { r with state:=.busy })/\R (some .ret) W
 | .exit id,_,W=>W.heap[l]?=some (.loop { r with state:=.busy })/\R (some (.exit id)) W
 | _,_,_=>False
theorem zkQ{l:Nat}{r:Loop}{tm:Array Value}{W:World}{R:Option Code->World->Prop}(hr:r.state=.ready)
 (h:r.assign.wpIn (FW (some l)) 0 P (Exit.then (fun a1 W1=>W1.heap[l]?=some (.loop r)/\r.body.wpIn (FW (some l)) 0 P (zhd l r R) a1 (W1.putObj l (.loop { r with state:=.busy }))) (fun _ _ _=>False)) { tmps:=tm,defers:=[] } W):
 RoundIn (FW none) 0 P l r.fn tm r.assign r.body W fun e W'=>∃ (jump:Option Code) (W3:World),e=.returned (.bool jump.isNone)/\
  W'=W3.putObj l (.loop { r with state:=if jump.isNone then .ready else .done,pending:=jump })/\R jump W3:=by
 refine roundIn_of_wpIn (F:=FW none) trivial ?_
 refine wpIn_mono (F:=FW (some l)) h fun e a1 W1 he=>?_
 cases e with
 | normal=>
  obtain⟨hl,hb⟩:=he
  refine⟨_,run_beginRound hl hr,wpIn_mono (F:=FW (some l)) hb fun e2 a2 W2 h2=>?_⟩
  cases e2 with
  | normal=>exact⟨_,_,run_endRound none h2.1,none,W2,rfl,rfl,h2.2⟩
  | ret=>exact⟨_,_,run_endRound (some .ret) h2.1,some .ret,W2,rfl,rfl,h2.2⟩
  | exit id=>exact⟨_,_,run_endRound (some (.exit id)) h2.1,some (.exit id),W2,rfl,rfl,h2.2⟩
  | goto t=>exact h2.elim
  | panic ch=>exact h2.elim
  | outgrown=>exact h2.elim
 | exit id=>exact he
 | goto l=>exact he
 | ret=>exact he
 | panic ch=>exact he
 | outgrown=>exact he
theorem zgw{dst:Option Tmp}{fop:Operand}{args:Array Operand}{ts:Array TypeId}{type:TypeId}{pos:String}{after:Array Edge}{guard:Option (Nat×Bool)}{l:Nat}{r:Loop}{next:Act->World->Prop}{Q:Exit->Act->World->Prop}
 (hf:a.eval fop=.func (.yield l) #[] #[]) (hl:w.heap[l]?=some (.loop r)) (hn:args.size=r.params.size)
 (h:RoundIn (FW none) 0 P l r.fn ((r.params.zip (args.map a.eval)).foldl (fun tmps (t,a)=>tmps.setIfInBounds t a) r.tmps) r.assign r.body w fun e W'=>∃ v,e=.returned v/\next (a.put dst v) W'):
 (⟨dst,.call ⟨.value fop,args,ts⟩,type,pos,after,guard⟩:Oper).wpIn (FW none) 0 P a w next Q:=by
 have hrun:(execOp a.eval ⟨dst,.call ⟨.value fop,args,ts⟩,type,pos,after,guard⟩).run P w=.ok (.round l r.fn ((r.params.zip (args.map a.eval)).foldl (fun tmps (t,a)=>tmps.setIfInBounds t a) r.tmps) r.assign r.body) w:=by
  simp only[execOp,resolve,hf,Deferred.ofValue,Sem.run_bind,Sem.run_pure,Result.andThen_ok,invoke]
  have:=run_yield (P:=P) (args:=args.map a.eval) hl (by simpa using hn)
  simpa using this
 refine zcy hrun (fun _ e=>by cases e) ⟨fun h=>(by cases h),h.mono fun e W' ⟨v,he,hv⟩=>?_⟩
 subst he
 exact hv
end Go.Am
/-! What lies in memory, handed from one activation to another. -/
namespace Go.Am
open Go Go.RowKit
variable {P:Program}{C C':Ctx}{s s':S}{a a':Act}{w w' w1 w2:World}{γ γ' γ1 γ2:Nat->Option G}{M M' M1 M2:Mem}{o o' o1 o2:List (Nat×AObj)}
structure za5(γ:Nat->Option G)(M:Mem)(w:World)(o:List (Nat×AObj)):Prop where
 ob:∀ id x,ze id o=some x->OM γ M w id x
 us:∀ id,ze id o=none->γ id=none
 sep:∀ id id' g g' b,ze id o≠none->ze id' o≠none->γ id=some g->γ id'=some g'->g.blk=some b->g'.blk=some b->id=id'
 lt:∀ id g b,ze id o≠none->γ id=some g->g.blk=some b->b<w.heap.size
 mem:HOk γ o M w
structure Chg(γ:Nat->Option G)(o:List (Nat×AObj))(M:Mem)(w:World)(γ':Nat->Option G)(o':List (Nat×AObj))(M':Mem)(w':World):Prop where
 size:w.heap.size<=w'.heap.size
 os:w'.os=w.os
 tape:w'.tape=w.tape
 output:w'.output=w.output
 le:MLe M M'
 old:∀ b,b<w.heap.size->¬ Handed γ o b->w'.heap[b]?=w.heap[b]?/\M' b=M b
 new:∀ b,Handed γ' o' b->w.heap.size<=b\/Handed γ o b
theorem HOk.chg(h:HOk γ o M w)(hm:MOk M' w')(hc:Chg γ o M w γ' o' M' w'):HOk γ' o' M' w':=by
 refine⟨⟨hm,h.tabs.keep fun b hb ht=>(hc.old b hb fun hh=>h.hand b hh ht).1⟩,fun b hb ht=>?_⟩
 rcases hc.new b hb with h1|h1
 .have:=h.tabs.lt ht;omega
 .exact h.hand b h1 ht
theorem Chg.refl:Chg γ o M w γ o M w:=⟨Nat.le_refl _,rfl,rfl,rfl,MLe.refl M,fun _ _ _=>⟨rfl,rfl⟩,fun _ h=>.inr h⟩
theorem Chg.trans(h:Chg γ o M w γ1 o1 M1 w1)(k:Chg γ1 o1 M1 w1 γ2 o2 M2 w2):Chg γ o M w γ2 o2 M2 w2:=by
 have hn:∀ b,b<w.heap.size->¬ Handed γ o b->¬ Handed γ1 o1 b:=fun b hb hh h2=>(h.new b h2).elim (fun h3=>by omega) hh
 refine⟨Nat.le_trans h.size k.size,k.os.trans h.os,k.tape.trans h.tape,k.output.trans h.output,h.le.trans k.le,fun b hb hh=>?_,fun b hb=>?_⟩
 .have h1:=h.old b hb hh
  have h2:=k.old b (Nat.lt_of_lt_of_le hb h.size) (hn b hb hh)
  exact⟨h2.1.trans h1.1,h2.2.trans h1.2⟩
 .rcases k.new b hb with h1|h1
  .exact .inl (Nat.le_trans h.size h1)
  .exact h.new b h1
def zcx(w:World)(M:Mem)(γ:Nat->Option G)(o:List (Nat×AObj))(kept:List Nat)(nt:Nat)(rd:Option Nat)(dl:List Deferred):Ctx:=
 { w0:=w,M0:=M,own:=Handed γ o,nt:=nt,g0:=fun i=>match yX i kept with|true=>γ i|false=>none,rd:=rd,dl:=dl }
theorem zai{kept:List Nat}{nt:Nat}{rd:Option Nat}{dl:List Deferred}:zaZ (zcx w M γ o kept nt rd dl) nt kept:=by
 refine⟨rfl,fun i g hg=>?_⟩
 simp only[zcx]at hg
 split at hg
 .rename_i he;exact zaT.1 he
 .cases hg
theorem za5.lend(h:za5 γ M w o){l:List (Nat×AV)}{kept:List Nat}{nt:Nat}{rd:Option Nat}{dl:List Deferred}(hsl:∀ t,ARel γ M (look t .any l) (a.tmps.getD t undef))(hd:a.defers=dl)(hn:a.tmps.size=nt):
 StG (zcx w M γ o kept nt rd dl) γ M (mkS l o) a w:=by
 refine⟨hsl,h.ob,fun id hu=>h.us id ?_,h.sep,fun id g b h1 h2 h3=>⟨.inr ⟨id,g,h1,h2,h3⟩,h.lt id g b h1 h2 h3⟩,h.mem.toMOk,MLe.refl M,fun _ _ _=>rfl,⟨rfl,rfl,rfl,Nat.le_refl _,fun _ _ _=>rfl,h.mem.tabs,h.mem.hand⟩,hd,hn,fun i g hg=>?_⟩
 .have hu:(ze id o).isSome=false:=hu
  cases hl:ze id o with
  | none=>rfl
  | some _=>rw[hl]at hu;cases hu
 .simp only[zcx]at hg
  split at hg
  .exact hg
  .cases hg
theorem za5.back{l:List (Nat×AV)}{kept:List Nat}{nt:Nat}{rd:Option Nat}{dl:List Deferred}(h:StG (zcx w M γ o kept nt rd dl) γ' M' (mkS l o') a w'):
 za5 γ' M' w' o'/\Chg γ o M w γ' o' M' w'/\(∀ i ∈ kept,∀ g,γ i=some g->γ' i=some g)/\(∀ t,ARel γ' M' (look t .any l) (a.tmps.getD t undef))/\a.defers=dl/\a.tmps.size=nt:=by
 refine⟨⟨h.ob,fun id hu=>h.us id ?_,h.sep,fun id g b h1 h2 h3=>(h.lo id g b h1 h2 h3).2,⟨h.wok,fun b ⟨id,g,h1,h2,h3⟩=>h.notab h1 h2 h3⟩⟩,⟨h.fr.size,h.fr.os,h.fr.tape,h.fr.output,h.le,fun b hb hh=>⟨h.fr.block b hb hh,h.new b hb hh⟩,fun b ⟨id,g,h1,h2,h3⟩=>(h.lo id g b h1 h2 h3).1⟩,fun i hi g hg=>h.gl i g ?_,h.sl,h.df,h.nt⟩
 .show (ze id o').isSome=false
  rw[hu];rfl
 .simp only[zcx]
  rw[zaT.2 hi];exact hg
theorem zhy{w:World}{x:Obj}{b:Nat}(hb:b<w.heap.size):(w.alloc x).heap[b]?=w.heap[b]?:=by
 show(w.heap.push x)[b]?=_
 rw[Array.getElem?_push_lt hb,Array.getElem?_eq_getElem hb]
theorem za5.addraw(h:za5 γ M w o){id:Nat}(hid:ze id o=none)(x:Obj):
 za5 (upd γ id (some (.cell w.heap.size))) M (w.alloc x) ((id,.raw x)::o)/\Chg γ o M w (upd γ id (some (.cell w.heap.size))) ((id,.raw x)::o) M (w.alloc x):=by
 have hγ:GLe γ (upd γ id (some (.cell w.heap.size))):=by
  intro i g' hi
  by_cases e:i=id
  .subst e;rw[h.us i hid]at hi;cases hi
  .rw [zh _ _ e];exact hi
 have hl:∀ {i},i≠id->ze i ((id,.raw x)::o)=ze i o:=by
  intro i hi
  show(match Nat.beq i id with|true=>some (AObj.raw x)|false=>ze i o)=_
  cases hb:Nat.beq i id with
  | true=>exact absurd (Nat.eq_of_beq_eq_true hb) hi
  | false=>rfl
 have hsame:ze id ((id,AObj.raw x)::o)=some (.raw x):=by
  show(match Nat.beq id id with|true=>some (AObj.raw x)|false=>ze id o)=_
  rw[Nat.beq_refl]
 have hg:∀ {i g b},i≠id->ze i o≠none->γ i=some g->g.blk=some b->b<w.heap.size:=fun _ h1 h2 h3=>h.lt _ _ _ h1 h2 h3
 have hC:Chg γ o M w (upd γ id (some (.cell w.heap.size))) ((id,.raw x)::o) M (w.alloc x):=by
  refine⟨by simp,rfl,rfl,rfl,MLe.refl M,fun b hb _=>⟨zhy hb,rfl⟩,fun b ⟨i,g,h1,h2,h3⟩=>?_⟩
  by_cases ei:i=id
  .subst ei
   rw[zc]at h2;cases h2;cases h3;exact .inl (Nat.le_refl _)
  .rw [zh _ _ ei]at h2
   exact .inr ⟨i,g,by rw[hl ei]at h1;exact h1,h2,h3⟩
 refine⟨⟨fun i y hi=>?_,fun i hi=>?_,fun i j g g' b hi hj h1 h2 h3 h4=>?_,fun i g b hi h1 h2=>?_,h.mem.chg (h.mem.alloc _) hC⟩,hC⟩
 .by_cases e:i=id
  .subst e
   rw[hsame]at hi;cases hi
   exact⟨w.heap.size,zc _ _ _,heap_alloc_new w _,h.mem.fresh (Nat.le_refl _)⟩
  .rw [hl e]at hi
   exact(h.ob i y hi).keep hγ (MLe.refl M) fun g b h1 h2=>⟨zhy (h.lt i g b (by rw[hi];simp) h1 h2),rfl⟩
 .by_cases e:i=id
  .subst e;rw[hsame]at hi;cases hi
  .rw [hl e]at hi;rw[zh _ _ e];exact h.us i hi
 .by_cases ei:i=id
  .subst ei
   rw[zc]at h1;cases h1;cases h3
   by_cases ej:j=i
   .exact ej.symm
   .rw [zh _ _ ej]at h2
    have:=h.lt j g' _ (by rw[hl ej]at hj;exact hj) h2 h4
    omega
  .rw [zh _ _ ei]at h1
   by_cases ej:j=id
   .subst ej
    rw[zc]at h2;cases h2;cases h4
    have:=h.lt i g _ (by rw[hl ei]at hi;exact hi) h1 h3
    omega
   .rw [zh _ _ ej]at h2
    exact h.sep i j g g' b (by rw[hl ei]at hi;exact hi) (by rw[hl ej]at hj;exact hj) h1 h2 h3 h4
 .by_cases ei:i=id
  .subst ei
   rw[zc]at h1;cases h1;cases h2;simp
  .rw [zh _ _ ei]at h1
   have:=h.lt i g b (by rw[hl ei]at hi;exact hi) h1 h2
   simp;omega
theorem za5.setraw(h:za5 γ M w o){id b:Nat}{x y:Obj}(hid:ze id o=some (.raw x))(hb:γ id=some (.cell b))(hy:ze id o'=some (.raw y))(hne:∀ i,i≠id->ze i o'=ze i o):
 za5 γ M (w.putObj b y) o'/\Chg γ o M w γ o' M (w.putObj b y):=by
 obtain⟨b',hg',hx,hn⟩:=h.ob id _ hid
 rw[hb]at hg';cases hg'
 have hlt:b<w.heap.size:=h.lt id _ b (by rw[hid];simp) hb rfl
 have hnn:∀ i,ze i o'≠none->ze i o≠none:=by
  intro i hi
  by_cases e:i=id
  .subst e;rw[hid];simp
  .rw [<-hne i e];exact hi
 have hC:Chg γ o M w γ o' M (w.putObj b y):=by
  refine⟨by simp,rfl,rfl,rfl,MLe.refl M,fun c hc hh=>⟨World.putObj_heap_other ?_,rfl⟩,fun c ⟨i,g,h1,h2,h3⟩=>.inr ⟨i,g,hnn i h1,h2,h3⟩⟩
  rintro rfl
  exact hh ⟨id,_,by rw[hid];simp,hb,rfl⟩
 refine⟨⟨fun i z hi=>?_,fun i hi=>?_,fun i j g g' c hi hj h1 h2 h3 h4=>h.sep i j g g' c (hnn i hi) (hnn j hj) h1 h2 h3 h4,fun i g c hi h1 h2=>?_,h.mem.chg (h.mem.put hn) hC⟩,hC⟩
 .by_cases e:i=id
  .subst e
   rw[hy]at hi;cases hi
   exact⟨b,hb,World.putObj_heap_same hlt,hn⟩
  .rw [hne i e]at hi
   refine(h.ob i z hi).keep (GLe.refl γ) (MLe.refl M) fun g c h1 h2=>⟨World.putObj_heap_other ?_,rfl⟩
   rintro rfl
   exact e (h.sep i id g _ c (by rw[hi];simp) (by rw[hid];simp) h1 hb h2 rfl)
 .by_cases e:i=id
  .subst e;rw[hy]at hi;cases hi
  .rw [hne i e]at hi;exact h.us i hi
 .have:=h.lt i g c (hnn i hi) h1 h2
  rw[World.putObj_size];exact this
def zrc(fx:List Nat)(c:Cut)(s:S):Option (List (Nat×AV)×List (Nat×AObj)):=
 match zkT s [] (zgn c.own)with
 | some rn=>match zzQ fx rn with
  | true=>match zda s rn (zoR rn) (zgn c.own) c.slots with
   | some l=>match zlU s rn (zoR rn) (zgn c.own) c.own rn (zgn c.own)with
    | some o=>some (l,o)
    | none=>none
   | none=>none
  | false=>none
 | none=>none
theorem ztd{fx:List Nat}{c:Cut}{s:S}{l:List (Nat×AV)}{o:List (Nat×AObj)}(h:zrc fx c s=some (l,o)):zaA fx c s=some (mkS l o):=by
 unfold zrc at h
 unfold zaA
 split at h
 .rename_i rn hrn
  rw[hrn];dsimp only
  split at h
  .rename_i hok
   rw[hok];dsimp only
   split at h
   .rename_i l' hl
    rw[hl];dsimp only
    split at h
    .rename_i o' ho
     rw[ho];cases h;rfl
    .cases h
   .cases h
  .cases h
 .cases h
theorem zgt{s:S}{rn fw:Rn}{own:List Own}:∀ {ts:List Nat} {l:List (Nat×AV)},zda s rn fw own ts=some l->l.map (·.1)=ts
 | [],l,h=>by cases h;rfl
 | t::r,l,h=>by
  simp only[zda]at h
  split at h
  .split at h
   .rename_i l' hl
    cases h
    simp[zgt hl]
   .cases h
  .cases h
theorem ztc{fx:List Nat}{c:Cut}{s:S}{l:List (Nat×AV)}{o:List (Nat×AObj)}(h:zrc fx c s=some (l,o)):l.map (·.1)=c.slots:=by
 unfold zrc at h
 split at h
 .split at h
  .split at h
   .rename_i l' hl
    split at h
    .cases h;exact zgt hl
    .cases h
   .cases h
  .cases h
 .cases h
def zcP:Exit->AV
 | .normal=>.p (.int .i64 (-1))
 | .ret=>.p (.int .i64 (-2))
 | .exit i=>.p (.int .i64 (i:Int))
 | _=>.any
def zgi(fx:List Nat)(c:Cut):K:=fun e s=>
 match zrc fx c s with
 | some (l,o)=>some (.tup (zcP e::l.map (·.2)),o)
 | none=>none
theorem zcz{e:Exit}(h:zcP e=.p (.int .i64 (-1))):e=.normal:=by
 cases e with
 | normal=>rfl
 | exit i=>simp[zcP]at h
 | _=>simp[zcP]at h
theorem zkt{e:Exit}{i:Nat}(h:zcP e=.p (.int .i64 (i:Int))):e=.exit i:=by
 cases e with
 | normal=>simp[zcP]at h
 | ret=>simp[zcP]at h
 | exit j => simp [zcP] at h; have : j = i := by omega
             rw[this]
 | _=>simp[zcP]at h
theorem zpA{α β:Type}:∀ {l:List (α×β)},List.zip (l.map (·.1)) (l.map (·.2))=l
 | []=>rfl
 | p::r=>by rw[List.map_cons,List.map_cons,List.zip_cons_cons,zpA]
theorem zck{nt:Nat}{fx:List Nat}(hC:zaZ C nt fx){c:Cut}{e:Exit}{s:S}{t:AV}{xs:List AV}{o:List (Nat×AObj)}(h:zgi fx c e s=some (.tup (t::xs),o)):zcP e=t/\Sub C s (mkS (List.zip c.slots xs) o):=by
 unfold zgi at h
 split at h
 .rename_i l o' hl
  cases h
  rw[<-ztc hl,zpA]
  exact⟨rfl,zlL hC (ztd hl)⟩
 .cases h
def zaY:List Nat->Code->S->K->Option Ans:=fun _ _ _ _=>none
theorem piece{G:Cfg}(hG:zbV G P C){c:Code}{s:S}{k:K}{r:Ans}(h:yV G zaY [] c s k=some r):T P C c s (fun e s'=>k e s'=some r):=
 zcV (again:=zaY) hG (fun _ _ _ _ _ h _=>by cases h) c [] s k _ h (fun _ _ h=>h)
def za8(G:Cfg)(c:Code)(k:K):K:=fun e s=>
 match e with
 | .normal=>yV G zaY [] c s k
 | e=>k e s
theorem yA{G:Cfg}(hG:zbV G P C){c:Code}{s:S}{k:K}{r:Ans}{R:Exit->Act->World->Prop}(h:yV G zaY [] c s k=some r)(hs:St C s a w)(hk:∀ e s' a' w',k e s'=some r->St C s' a' w'->R e a' w'):c.wpIn (FW C.rd) 0 P R a w:=
 wpIn_mono (piece hG h a w hs) fun e a' w' ⟨s',h1,h2⟩=>hk e s' a' w' h1 h2
theorem ARel.nil_list{γ:Nat->Option G}{M:Mem}{v:Value}{k:Nat}{R:Rows}(h0:R.n=0)(h:ARel γ M (.p .nil) v):ARel γ M (.p (.list k R)) v:=by
 cases h with|p _ _ h=>cases h;exact .p _ _ (.listNil k R h0)
theorem ARel.tup_head{γ:Nat->Option G}{M:Mem}{v:Value}{x y:AV}{r:List AV}(k:∀ v,ARel γ M x v->ARel γ M y v)(h:ARel γ M (.tup (x::r)) v):ARel γ M (.tup (y::r)) v:=by
 obtain⟨vs,rfl,hs,hr⟩:=h.tup_inv
 refine .tup _ _ (by simpa using hs) fun i hi=>?_
 cases i with
 | zero=>exact k _ (hr 0 (by simp))
 | succ i=>exact hr (i+1) (by simpa using hi)
end Go.Am
/-! A range over a function: zFK laws for putting the pieces together. -/
namespace Go.Am
open Go Go.RowKit
variable {P:Program}{C C':Ctx}{s s':S}{a a':Act}{w w' w1 w2:World}{γ γ' γ1 γ2:Nat->Option G}{M M' M1 M2:Mem}{o o' o1 o2:List (Nat×AObj)}
theorem za5.of_st{l:List (Nat×AV)}(h:StG C γ M (mkS l o) a w):za5 γ M w o:=by
 refine⟨h.ob,fun id hu=>h.us id ?_,h.sep,fun id g b h1 h2 h3=>(h.lo id g b h1 h2 h3).2,⟨h.wok,fun b ⟨id,g,h1,h2,h3⟩=>h.notab (s:=mkS l o) h1 h2 h3⟩⟩
 show(ze id o).isSome=false
 rw[hu];rfl
theorem zwF{env:Env}(henv:yQ P env){ops:Array Oper}{Q:Exit->Act->World->Prop}{l2:List Nat}:∀ (l:List Nat) {s s':S} {ps:List Prop} {a:Act} {w:World},
 zl2 P env C.nt ops l s=some (s',ps)->All ps->St C s a w->(∀ a' w',St C s' a' w'->wpOpsIn (FW C.rd) 0 P ops Q l2 a' w')->wpOpsIn (FW C.rd) 0 P ops Q (l++l2) a w:=by
 intro l
 induction l with
 | nil=>intro s s' ps a w h hp hs hq;cases h;exact hq a w hs
 | cons i r ih=>
  intro s s' ps a w h hp hs hq
  simp only[zl2]at h
  simp only[List.cons_append,wpOpsIn]
  cases ho:ops[i]? with
  | none=>rw[ho]at h;cases h
  | some o=>
   rw[ho]at h
   dsimp only at h ⊢
   cases h1:yh P env C.nt ops o s with
   | none=>rw[h1]at h;cases h
   | some q=>
    obtain⟨s1,p1⟩:=q
    rw[h1]at h
    dsimp only at h
    cases h2:zl2 P env C.nt ops r s1 with
    | none=>rw[h2]at h;cases h
    | some q=>
     obtain⟨s2,p2⟩:=q
     rw[h2]at h
     cases h
     obtain⟨hp1,hp2⟩:=All.append hp
     have:=zfn henv h1 hp1 hs (next:=wpOpsIn (FW C.rd) 0 P ops Q (r++l2)) (Q:=Q) fun a' w' hs'=>ih h2 hp2 hs' hq
     split
     .rename_i hw;rw[if_pos hw]at this;exact this
     .rename_i hw;rw[if_neg hw]at this;exact⟨fun _ _=>trivial,this⟩
def zu4(P:Program)(env:Env)(nt:Nat)(ops:Array Oper)(l:List Nat)(s:S)(fx:List Nat)(c:Cut):Option (Ans×List Prop):=
 match zl2 P env nt ops l s with
 | some (s',ps)=>match zgi fx c .normal s' with
  | some r=>some (r,ps)
  | none=>none
 | none=>none
theorem znP{nt:Nat}{fx:List Nat}(hC:zaZ C nt fx){env:Env}(henv:yQ P env){ops:Array Oper}{Q:Exit->Act->World->Prop}{l l2:List Nat}{c:Cut}{t:AV}{xs:List AV}{ps:List Prop}
 (h:zu4 P env nt ops l s fx c=some ((.tup (t::xs),o),ps)) (hp:All ps) (hs:St C s a w) (hq:∀ a' w',St C (mkS (List.zip c.slots xs) o) a' w'->wpOpsIn (FW C.rd) 0 P ops Q l2 a' w'):wpOpsIn (FW C.rd) 0 P ops Q (l++l2) a w:=by
 unfold zu4 at h
 split at h
 .rename_i s' ps' he
  split at h
  .rename_i r hk
   cases h
   rw[<-hC.nt]at he
   exact zwF henv l he hp hs fun a' w' hs'=>hq a' w' ((zck hC hk).2 _ _ hs')
  .cases h
 .cases h
theorem zye{F:Fence}{n:Nat}{ops:Array Oper}{Q:Exit->Act->World->Prop}{i:Nat}{rest:List Nat}{o:Oper}(ho:ops[i]?=some o)(hg:o.guard=none)(h:o.wpIn F n P a w (wpOpsIn F n P ops Q rest) Q):wpOpsIn F n P ops Q (i::rest) a w:=by
 unfold wpOpsIn
 rw[ho]
 dsimp only
 rw[if_pos (by simp[Region.wanted,hg])]
 exact h
theorem zkH{f:Nat->Value}:∀ t,ARel γ M (look t .any []) (f t):=fun _=>.any _
theorem yw{f:Nat->Value}{k:Nat}{x:AV}{l:List (Nat×AV)}(h:ARel γ M x (f k))(hr:∀ t,ARel γ M (look t .any l) (f t)):∀ t,ARel γ M (look t .any ((k,x)::l)) (f t):=by
 intro t
 unfold look
 cases hb:Nat.beq t k with
 | true=>rw[Nat.eq_of_beq_eq_true hb];exact h
 | false=>exact hr t
theorem zyC{id:Nat}{x y:AObj}{r:List (Nat×AObj)}:∀ i,i≠id->ze i ((id,x)::r)=ze i ((id,y)::r):=by
 intro i hi
 unfold ze
 cases hb:Nat.beq i id with
 | true=>exact absurd (Nat.eq_of_beq_eq_true hb) hi
 | false=>rfl
theorem zc6{id:Nat}{x:AObj}{r:List (Nat×AObj)}:ze id ((id,x)::r)=some x:=by
 unfold ze
 rw[Nat.beq_refl]
theorem ARel.ref_kept{γ γ':Nat->Option G}{M M':Mem}{id off:Nat}{v:Value}(h:ARel γ M (.ref id off) v)(k:∀ g,γ id=some g->γ' id=some g):ARel γ' M' (.ref id off) v:=by
 cases h with|ref _ _ b hb=>exact .ref _ _ b (k _ hb)
theorem ARel.p_any{γ γ':Nat->Option G}{M M':Mem}(hM:MLe M M'){x:PV}{v:Value}(h:ARel γ M (.p x) v):ARel γ' M' (.p x) v:=.p _ _ (h.p_inv.mono hM)
theorem ARel.clo0{fn:Fn}{v:Value}(h:ARel γ M (.clo fn [] []) v):v=.func fn #[] #[]:=by
 cases h with
 | clo _ _ _ vf vc hf hc _ _=>
  have e1:vf=#[]:=Array.eq_empty_of_size_eq_zero hf
  have e2:vc=#[]:=Array.eq_empty_of_size_eq_zero hc
  rw[e1,e2]
theorem arr3{v:Array Value}(h:v.size=3):∃ x y z,v=#[x,y,z]:=by
 obtain⟨l⟩:=v
 match l,h with
 | [x,y,z],_=>exact⟨x,y,z,rfl⟩
theorem ARel.clo3{fn:Fn}{x y z:AV}{v:Value}(h:ARel γ M (.clo fn [] [x,y,z]) v):∃ p q r,v=.func fn #[] #[p,q,r]/\ARel γ M x p/\ARel γ M y q/\ARel γ M z r:=by
 cases h with
 | clo _ _ _ vf vc hf hc _ h2=>
  have e1:vf=#[]:=Array.eq_empty_of_size_eq_zero hf
  obtain⟨p,q,r,rfl⟩:=arr3 hc
  exact⟨p,q,r,by rw[e1],h2 0 (by simp),h2 1 (by simp),h2 2 (by simp)⟩
theorem za5.raw_at(h:za5 γ M w o){id b:Nat}{x:Obj}(hid:ze id o=some (.raw x))(hb:γ id=some (.cell b)):w.heap[b]?=some x/\b<w.heap.size:=by
 obtain⟨b',hg',hx,_⟩:=h.ob id _ hid
 rw[hb]at hg';cases hg'
 exact⟨hx,h.lt id _ b (by rw[hid];simp) hb rfl⟩
theorem zoO{tm:Array Value}{k t:Nat}{v:Value}(hk:k<tm.size):(tm.setIfInBounds k v).getD t undef=if k=t then v else tm.getD t undef:=by
 rw[Array.getD_eq_getD_getElem?,Array.getElem?_setIfInBounds]
 split
 .rename_i h;subst h;simp[]
 .rw [Array.getD_eq_getD_getElem?]
theorem zBa{nt:Nat}{l:List (Nat×AV)}{tm:Array Value}(hM:WOk M w)(hsl:∀ t,ARel γ0 M (look t .any l) (tm.getD t undef))(hn:tm.size=nt):
 StG { w0:=w,M0:=M,own:=fun _=>False,nt:=nt,g0:=γ0 } γ0 M (mkS l []) { tmps:=tm,defers:=[] } w:=by
 refine⟨hsl,?_,fun _ _=>rfl,?_,?_,hM.toMOk,MLe.refl M,fun _ _ _=>rfl,⟨rfl,rfl,rfl,Nat.le_refl _,fun _ _ _=>rfl,hM.tabs,fun _ h=>h.elim⟩,rfl,hn,GLe.refl γ0⟩
 .intro id o ho;cases ho
 .intro id id' g g' b h1;exact absurd rfl h1
 .intro id g b h1;exact absurd rfl h1
theorem zz3{G:Cfg}(hG:zbV G P C){nt:Nat}{fx:List Nat}(hC:zaZ C nt fx){c1 c2 c3 c4:Code}{c:Cut}{t:AV}{xs:List AV}{Q:Exit->Act->World->Prop}{b:Nat}
 (hv:yV G zaY [] c1 s (za8 G c2 (za8 G c3 (zgi fx c)))=some (.tup (t::xs),o)) (hs:St C s a w)
 (hn:∀ a w,t=.p (.int .i64 (-1))->St C (mkS (List.zip c.slots xs) o) a w->c4.wpIn (FW C.rd) 0 P (Exit.inBlock b Q) a w)
 (he:∀ e a w,e≠.normal->zcP e=t->St C (mkS (List.zip c.slots xs) o) a w->Q e a w/\Exit.inBlock b Q e a w):
 (Code.seq c1 (.block b (.seq c2 (.seq c3 c4)))).wpIn (FW C.rd) 0 P Q a w:=by
 have key:∀ e s' a' w',e≠.normal->zgi fx c e s'=some (.tup (t::xs),o)->St C s' a' w'->Q e a' w'/\Exit.inBlock b Q e a' w':=by
  intro e s' a' w' hne hk hs'
  obtain⟨h1,h2⟩:=zck hC hk
  exact he e a' w' hne h1 (h2 _ _ hs')
 refine wpIn_seq (yA hG hv hs fun e s1 a1 w1 hk1 hs1=>?_)
 cases e with
 | normal=>
  refine wpIn_block (wpIn_seq (yA hG (s:=s1) hk1 hs1 fun e s2 a2 w2 hk2 hs2=>?_))
  cases e with
  | normal=>
   refine wpIn_seq (yA hG (s:=s2) hk2 hs2 fun e s3 a3 w3 hk3 hs3=>?_)
   cases e with
   | normal=>
    obtain⟨h1,h2⟩:=zck hC hk3
    exact hn a3 w3 h1.symm (h2 _ _ hs3)
   | exit i=>exact(key (.exit i) s3 a3 w3 (by simp) hk3 hs3).2
   | ret=>exact(key .ret s3 a3 w3 (by simp) hk3 hs3).2
   | goto i=>exact(key (.goto i) s3 a3 w3 (by simp) hk3 hs3).2
   | panic i=>exact(key (.panic i) s3 a3 w3 (by simp) hk3 hs3).2
   | outgrown=>exact(key .outgrown s3 a3 w3 (by simp) hk3 hs3).2
  | exit i=>exact(key (.exit i) s2 a2 w2 (by simp) hk2 hs2).2
  | ret=>exact(key .ret s2 a2 w2 (by simp) hk2 hs2).2
  | goto i=>exact(key (.goto i) s2 a2 w2 (by simp) hk2 hs2).2
  | panic i=>exact(key (.panic i) s2 a2 w2 (by simp) hk2 hs2).2
  | outgrown=>exact(key .outgrown s2 a2 w2 (by simp) hk2 hs2).2
 | exit i=>exact(key (.exit i) s1 a1 w1 (by simp) hk1 hs1).1
 | ret=>exact(key .ret s1 a1 w1 (by simp) hk1 hs1).1
 | goto i=>exact(key (.goto i) s1 a1 w1 (by simp) hk1 hs1).1
 | panic i=>exact(key (.panic i) s1 a1 w1 (by simp) hk1 hs1).1
 | outgrown=>exact(key .outgrown s1 a1 w1 (by simp) hk1 hs1).1
theorem znW{G:Cfg}(hG:zbV G P C)(F:Nat)(p:List Nat){c:Code}{s:S}{k:K}{r:Ans}{R:Exit->Act->World->Prop}(h:yV G (zjO G F) p c s k=some r)(hs:St C s a w)(hk:∀ e s' a' w',k e s'=some r->St C s' a' w'->R e a' w'):c.wpIn (FW C.rd) 0 P R a w:=
 wpIn_mono ((zcV hG (fun p b s k Q=>zgA hG F p b s k Q) c p s k (fun e s'=>k e s'=some r) h (fun _ _ h=>h):T P C c s _) a w hs) fun e a' w' ⟨s',h1,h2⟩=>hk e s' a' w' h1 h2
end Go.Am
