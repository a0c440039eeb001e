/-
  A part of a machine that runs known data, and its soundness; no condition of its own.
-/
import Derived.Handed
import Derived.Shelf.Vars
import Derived.WalkKit
import Derived.ProofKit
import Derived.OpenShut
import Derived.ShutString
import Derived.Lib.LaidTab
import Derived.KernelRfl
import GoSem.ClaimGoes
import GoSem.ClaimDataLaid
import GoSem.ClaimSeven
import GoSem.ClaimStop
import Derived.LaidByTextLater
import Derived.Test.YtfidlcpfbinncaaGreatDoorBmD
import Derived.Test.YtfidlcpfbinncaaGreatDoorAmB
set_option linter.unusedVariables false
noncomputable section
namespace Go.Bm
open Go Go.RowKit Go.ChangeShapes Go.WideShapes Go.ChangeAt
variable {H:Type}{enc:TypeId×Value->H}
theorem zkR{a:Assume}{C:Checked}{os:Os}{f:FuncId}{fn:Func}{s:ChangeSpec}{conds:List PathCond}{apart fresh handsOn again:Bool}{X:World->Array Value->Prop}
 (own:ownKnob C.prog.godebug=none) (started:os.Started) (noInit:C.prog.inits.idxOf? f=none) (hfn:C.prog.funcs[f]?=some fn)
 (witness:∃ (w:World) (tape:Tape) (i:Input),w.os=os/\(w.forCall tape i).Shaped C.prog/\i.vars=[]/\Input.okWide C.prog (w.forCall tape i) .any w.heap.size f i/\
  ((s.pre enc C.prog fn conds apart (w.forCall tape i).memory i.args/\X (w.forCall tape i).memory i.args)/\sizedMet enc C.prog fn (OpenSpec.ofChange s) apart (w.forCall tape i).memory i.args)/\a.holds C.prog (lone (Frame.enter C.prog f i.args .normal) [] (w.forCall tape i)))
 (contract:∀ (W:World) (base:Nat) (args:Array Value) (ds gs:List (DataW H)) (before:List MemPlace),W.ShapedOpen C.prog->(∃ W0:World,W0.heap=W.heap/\X W0 args)->
  (∀ (j:Nat) t v,fn.params[j]?=some t->args[j]?=some v->Value.okWide C.prog W .any base t v)->
  DataW.Whole enc C.prog fn.params.toList s.vars apart W args.toList ds gs before->
  (DataW.weightsEach C.prog (fn.params.toList++s.plain.varTypes C.prog) (ds++gs)).all (·<=reachBytes)=true->
  Calls C.prog f args W fun e W'=>∃ v,e=.returned v/\s.post enc C.prog fn apart fresh handsOn again W args v W'):
 ReturnsInHanded a C os f .any (fun w args=>(s.pre enc C.prog fn conds apart w args/\X w args)/\sizedMet enc C.prog fn (OpenSpec.ofChange s) apart w args) (s.post enc C.prog fn apart fresh handsOn again):=by
 refine returnsInHanded_of_calls own started noInit witness ?_
 intro w tape i _ hsh _ hok hpre _
 obtain⟨_,_,_,fn',hfn',_,_,_,_,hval⟩:=hok
 have e:fn'=fn:=Option.some.inj (hfn'.symm.trans hfn)
 subst e
 obtain⟨⟨⟨ds,gs,before,hw,_⟩,hX⟩,hz⟩:=hpre
 have hw':=DataW.Whole.of_heap (w':=w.forCall tape i) (by rfl) hw
 refine(contract (w.forCall tape i) w.heap.size i.args ds gs before hsh ⟨(w.forCall tape i).memory,rfl,hX⟩ hval hw' (hz.weights hw)).mono fun e W' ⟨v,he,hp⟩=>?_
 subst he
 exact ChangeSpec.post_blind hp
variable {P:Program}
theorem zml{f:Func}{s:ChangeSpec}{apart fresh handsOn again:Bool}{W W':World}{args:Array Value}{v:Value}{ds gs:List (DataW H)}{before pa pv:List MemPlace}
 (hW:DataW.Whole enc P f.params.toList s.vars apart W args.toList ds gs before)
 (hres:∀ (b:Nat) (sp:Nat->Bool) (hd:Bool),DataW.TrodAll enc P W' b sp hd f.resultTypes.toList (v.resultList f.resultTypes.size) (s.fn H (ds++gs)).results [])
 (hargs:∀ sp:Nat->Bool,(∀ p ∈ before,sp p.block=true)->DataW.TrodAll enc P W' 0 sp true f.params.toList args.toList (s.fn H (ds++gs)).args pa)
 (hvars:∀ sp:Nat->Bool,(∀ p ∈ before,sp p.block=true)->DataW.TrodVars enc P W' sp s.vars (s.fn H (ds++gs)).vars pv)
 (hps:before=pa++pv) (hb:Below W.heap.size W W')
 (hok:∀ (j:Nat) (t:TypeId) (r:Value),f.resultTypes[j]?=some t->(v.resultList f.resultTypes.size)[j]?=some r->Value.okWide P W' .any 0 t r):
 s.post enc P f apart fresh handsOn again W args v W':=by
 have hlt:∀ p ∈ before,p.block<W.heap.size:=hW.lt
 have hold:∀ p ∈ before,(fun b=>decide (b<W.heap.size)) p.block=true:=fun p hp=>by simpa using hlt p hp
 refine⟨ds,gs,before,[],pa,pv,hW,hres _ _ _,hargs _ hold,hvars _ hold,hb.frame _,fun _=>?_⟩
 obtain⟨_,_,_,_,_,hz,hn⟩:=hW
 refine⟨hok,_,_,([]++pa)++pv,⟨[]++pa,pv,trodAll_append (hargs _ (fun _ _=>rfl)) (hres _ _ _),hvars _ (fun _ _=>rfl),rfl,?_,?_⟩,?_⟩
 .intro b off hp
  have hp':MemPlace.cell b off ∈ before:=by rw[hps];simpa using hp
  rw[hb.frozen (p:=⟨b,off,none⟩) (hlt _ hp')]
  exact hz b off hp'
 .intro ha
  have:=hn ha
  rw[hps]at this
  simpa using this
 .intro p hp _
  rw[hps]
  simpa using hp
theorem zjj{P:Program}{w:World}{n:String}{d:DataW Unit}:∀ {l:List (String×DataW Unit)} {ps:List MemPlace},DataW.LaidVars P w l ps->(n,d) ∈ l->
 ∃ g t cs fuel p,P.globalNamed n=some g/\(P.globals[g]?).map (·.type)=some t/\w.var? P n=some cs/\DataW.trod (fun _=>()) P w 0 (fun _=>true) false fuel t cs.toList=some (d,p)
 | [],ps,_,h=>by cases h
 | (n',d')::r,ps,hl,h=>by
  obtain⟨g,t,cs,fuel,p,q,h1,h2,h3,h4,h5,_⟩:=hl
  rcases List.mem_cons.1 h with e|h
  .cases e;exact⟨g,t,cs,fuel,p,h1,h2,h3,h4⟩
  .exact zjj h5 h
theorem zpL{P:Program}{W W0:World}{l:List (String×DataW Unit)}{name:String}{zs:List Int}{g:Nat}{t e:TypeId}{n:Nat}(hW:W0.heap=W.heap)(hp:laidMet P l W0)(hm:(name,Lib.tabData .u64 zs) ∈ l)
 (hg:P.globalNamed name=some g) (hty:(P.globals[g]?).map (·.type)=some t) (ht:P.underlying t=some (.array n e)) (he:P.underlying e=some (.int .u64)) (hce:P.cellsOf e=1) (hct:P.cellsOf t=n):
 ∃ e m,W.heap[g]?=some (.cells (zs.map fun z=>Value.int .u64 z).toArray e m):=by
 obtain⟨ps,hl,_⟩:=hp
 obtain⟨g',t',cs,fuel,p,h1,h2,h3,h4⟩:=zjj hl hm
 obtain rfl:=Option.some.inj (hg.symm.trans h1)
 obtain rfl:=Option.some.inj (hty.symm.trans h2)
 have hc:=Lib.cells_of_tab ht he hce hct h4
 unfold World.var? at h3
 rw[hg,Option.bind_some,hW]at h3
 split at h3
 .rename_i c2 e2 m2 hh
  cases h3
  exact⟨e2,m2,by rw[hh,<-hc]⟩
 .cases h3
theorem zp1{S:zd}{f:FuncId}{xs:List BV}{n:Nat}{h':Hp}{v:Bool}{γ0:Nat->Option G}(hk:zg S f xs ⟨n,.e⟩ (.b v) h')(hus:∀ id,n<=id->γ0 id=none)(hsy:∀ q t,S.sy q=some t->∃ g,γ0 q=some g/\g.T=t)
 (hbd:∀ q a b,S.bd q=some (a,b)->∃ t,S.sy q=some t/\a<=t.length/\t.length<=b) (hc:zR S.P f=true) {vs:List Value} (hx:zm γ0 xs vs) (W:World) (hg:∀ g l,S.gt g=some l->∃ e m,W.heap[g]?=some (.cells (l.map fun z=>Value.int .u64 (.ofNat z)).toArray e m)):
 Calls S.P f vs.toArray W fun e W'=>e=.returned (.bool v)/\Below W.heap.size W W':=by
 have hget:∀ id,Hp.get ⟨n,.e⟩ id=.x:=fun id=>zqG _
 have r0:Rel ⟨fun b=>W.heap[b]?,W.os,W.tape,W.output,S.sy⟩ γ0 ⟨n,.e⟩ W:=
  ⟨fun id=>by rw[hget];trivial,fun i j g1 g2 hi=>absurd (hget i) hi,fun i g hi=>absurd (hget i) hi,hus,fun b o hb=>hb,rfl,rfl,rfl,fun b hb=>Array.getElem?_eq_none hb,hsy⟩
 rcases hk _ _ W vs ⟨fun g l h=>hg g l h,fun q t h=>h,hbd⟩ r0 hx with⟨z,w',k1,_⟩|⟨_,k2⟩
 .rw [ym hc]at k1;cases k1
 .refine k2.mono fun e W' ⟨z,hz,γ',e1,e2,e3,e4⟩=>?_
  cases e3
  have hsz:W.heap.size<=W'.heap.size:=by
   rcases Nat.lt_or_ge W'.heap.size W.heap.size with hl|hl
   .exfalso
    have h1:W.heap[W'.heap.size]?=some W.heap[W'.heap.size]:=Array.getElem?_eq_getElem hl
    have:=e4.fr _ _ h1
    rw[Array.getElem?_eq_none (Nat.le_refl _)]at this
    cases this
   .exact hl
  refine⟨hz,e4.os,e4.tape,e4.output,hsz,fun b hb=>?_⟩
  have h1:W.heap[b]?=some W.heap[b]:=Array.getElem?_eq_getElem hb
  rw[h1];exact e4.fr b _ h1
end Go.Bm
/-! A seat's tables. -/
namespace Go.Bm
open Go Go.RowKit
noncomputable section
def gX{α:Type}:Pa->Tr (Option α)->Option α:=
 Pa.rec (motive:=fun _=>Tr (Option α)->Option α) (Tr.rec (motive:=fun _=>Option α) none (fun v _ _ _ _ _ _ _ _ _ _ _ _ _ _ _ _=>v))
  (fun _ ih=>Tr.rec (motive:=fun _=>Option α) none (fun _ c _ _ _ _ _ _ _ _ _ _ _ _ _ _ _=>ih c))
  (fun _ ih=>Tr.rec (motive:=fun _=>Option α) none (fun _ _ c _ _ _ _ _ _ _ _ _ _ _ _ _ _=>ih c))
  (fun _ ih=>Tr.rec (motive:=fun _=>Option α) none (fun _ _ _ c _ _ _ _ _ _ _ _ _ _ _ _ _=>ih c))
  (fun _ ih=>Tr.rec (motive:=fun _=>Option α) none (fun _ _ _ _ c _ _ _ _ _ _ _ _ _ _ _ _=>ih c))
  (fun _ ih=>Tr.rec (motive:=fun _=>Option α) none (fun _ _ _ _ _ c _ _ _ _ _ _ _ _ _ _ _=>ih c))
  (fun _ ih=>Tr.rec (motive:=fun _=>Option α) none (fun _ _ _ _ _ _ c _ _ _ _ _ _ _ _ _ _=>ih c))
  (fun _ ih=>Tr.rec (motive:=fun _=>Option α) none (fun _ _ _ _ _ _ _ c _ _ _ _ _ _ _ _ _=>ih c))
  (fun _ ih=>Tr.rec (motive:=fun _=>Option α) none (fun _ _ _ _ _ _ _ _ c _ _ _ _ _ _ _ _=>ih c))
def sX{α:Type}:Pa->Tr (Option α)->Option α->Tr (Option α):=
 Pa.rec (motive:=fun _=>Tr (Option α)->Option α->Tr (Option α)) (fun t x=>Tr.rec (motive:=fun _=>Tr (Option α)) (.n x .e .e .e .e .e .e .e .e) (fun _ c0 c1 c2 c3 c4 c5 c6 c7 _ _ _ _ _ _ _ _=>.n x c0 c1 c2 c3 c4 c5 c6 c7) t)
  (fun _ ih t x=>Tr.rec (motive:=fun _=>Tr (Option α)) (.n none (ih .e x) .e .e .e .e .e .e .e) (fun v c0 c1 c2 c3 c4 c5 c6 c7 _ _ _ _ _ _ _ _=>.n v (ih c0 x) c1 c2 c3 c4 c5 c6 c7) t)
  (fun _ ih t x=>Tr.rec (motive:=fun _=>Tr (Option α)) (.n none .e (ih .e x) .e .e .e .e .e .e) (fun v c0 c1 c2 c3 c4 c5 c6 c7 _ _ _ _ _ _ _ _=>.n v c0 (ih c1 x) c2 c3 c4 c5 c6 c7) t)
  (fun _ ih t x=>Tr.rec (motive:=fun _=>Tr (Option α)) (.n none .e .e (ih .e x) .e .e .e .e .e) (fun v c0 c1 c2 c3 c4 c5 c6 c7 _ _ _ _ _ _ _ _=>.n v c0 c1 (ih c2 x) c3 c4 c5 c6 c7) t)
  (fun _ ih t x=>Tr.rec (motive:=fun _=>Tr (Option α)) (.n none .e .e .e (ih .e x) .e .e .e .e) (fun v c0 c1 c2 c3 c4 c5 c6 c7 _ _ _ _ _ _ _ _=>.n v c0 c1 c2 (ih c3 x) c4 c5 c6 c7) t)
  (fun _ ih t x=>Tr.rec (motive:=fun _=>Tr (Option α)) (.n none .e .e .e .e (ih .e x) .e .e .e) (fun v c0 c1 c2 c3 c4 c5 c6 c7 _ _ _ _ _ _ _ _=>.n v c0 c1 c2 c3 (ih c4 x) c5 c6 c7) t)
  (fun _ ih t x=>Tr.rec (motive:=fun _=>Tr (Option α)) (.n none .e .e .e .e .e (ih .e x) .e .e) (fun v c0 c1 c2 c3 c4 c5 c6 c7 _ _ _ _ _ _ _ _=>.n v c0 c1 c2 c3 c4 (ih c5 x) c6 c7) t)
  (fun _ ih t x=>Tr.rec (motive:=fun _=>Tr (Option α)) (.n none .e .e .e .e .e .e (ih .e x) .e) (fun v c0 c1 c2 c3 c4 c5 c6 c7 _ _ _ _ _ _ _ _=>.n v c0 c1 c2 c3 c4 c5 (ih c6 x) c7) t)
  (fun _ ih t x=>Tr.rec (motive:=fun _=>Tr (Option α)) (.n none .e .e .e .e .e .e .e (ih .e x)) (fun v c0 c1 c2 c3 c4 c5 c6 c7 _ _ _ _ _ _ _ _=>.n v c0 c1 c2 c3 c4 c5 c6 (ih c7 x)) t)
def zgV{α:Type}:List (Option α)->Nat->Tr (Option α)->Tr (Option α)
 | [],_,t=>t
 | none::l,i,t=>zgV l (Nat.succ i) t
 | some x::l,i,t=>zgV l (Nat.succ i) (sX (pa i) t (some x))
def zhl{α:Type}:List Bool->List α->List (Option α)
 | [],_=>[]
 | _,[]=>[]
 | true::m,x::l=>some x::zhl m l
 | false::m,_::l=>none::zhl m l
def okF(S:zd)(f:Nat)(fn:Func):Bool:=and (not (fn.name== "runtime.NumGoroutine")) (match fn.body with|some c=>okC fn.ntmps false (AC.of (S.plan f) c)|none=>true)
def zjQ(S:zd):Nat->List (Option Func)->Bool
 | _,[]=>true
 | i,none::l=>zjQ S (Nat.succ i) l
 | i,some fn::l=>and (okF S i fn) (zjQ S (Nat.succ i) l)
end
theorem zy6{α:Type}(p:Pa):∀ (t:Tr (Option α)) (x:Option α),gX p (sX p t x)=x:=by
 induction p with
 | z=>intro t x;cases t <;> rfl
 | _ p ih=>intro t x;cases t <;> exact ih _ x
theorem zv6{α:Type}(p:Pa):gX p (.e:Tr (Option α))=none:=by cases p <;> rfl
theorem zlv{α:Type}(p:Pa):∀ (q:Pa) (t:Tr (Option α)) (x:Option α),q≠p->gX q (sX p t x)=gX q t:=by
 induction p with
 | z=>intro q t x h;cases q <;> first|exact absurd rfl h|(cases t <;> first|rfl|exact zv6 _)
 | _ p ih=>
  intro q t x h
  cases q <;> cases t <;> first
   | rfl
   | exact zv6 _
   | exact(ih _ _ x (fun e=>h (by rw[e]))).trans (zv6 _)
   | exact ih _ _ x (fun e=>h (by rw[e]))
theorem zpj{α:Type}:∀ (l:List (Option α)) (i:Nat) (t:Tr (Option α)),(∀ j,i<=j->gX (pa j) t=none)->∀ j x,gX (pa j) (zgV l i t)=some x->(j<i/\gX (pa j) t=some x)\/(i<=j/\l[j-i]?=some (some x))
 | [],i,t,ht,j,x,h=>by
  rcases Nat.lt_or_ge j i with hj|hj
  .exact .inl ⟨hj,h⟩
  .have h:gX (pa j) t=some x:=h
   rw[ht j hj]at h;cases h
 | none::l,i,t,ht,j,x,h=>by
  rcases zpj l (i+1) t (fun j hj=>ht j (by omega)) j x h with⟨h1,h2⟩|⟨h1,h2⟩
  .rcases Nat.lt_or_ge j i with hj|hj
   .exact .inl ⟨hj,h2⟩
   .rw [ht j hj]at h2;cases h2
  .refine .inr ⟨by omega,?_⟩
   rw[show j-i=(j-(i+1))+1 by omega,List.getElem?_cons_succ];exact h2
 | some y::l,i,t,ht,j,x,h=>by
  have hne:∀ k,k≠i->gX (pa k) (sX (pa i) t (some y))=gX (pa k) t:=fun k hk=>zlv _ _ _ _ fun e=>hk (zk0 e)
  rcases zpj l (i+1) (sX (pa i) t (some y)) (fun j hj=>by rw[hne j (by omega)];exact ht j (by omega)) j x h with⟨h1,h2⟩|⟨h1,h2⟩
  .by_cases e:j=i
   .subst e
    rw[zy6]at h2
    exact .inr ⟨Nat.le_refl _,by rw[Nat.sub_self];simpa using h2⟩
   .rw [hne j e]at h2
    exact .inl ⟨by omega,h2⟩
  .refine .inr ⟨by omega,?_⟩
   rw[show j-i=(j-(i+1))+1 by omega,List.getElem?_cons_succ];exact h2
theorem zrp{α:Type}{l:List (Option α)}{T:Tr (Option α)}(hT:T=zgV l 0 .e){j:Nat}{x:α}(h:gX (pa j) T=some x):l[j]?=some (some x):=by
 rw[hT]at h
 rcases zpj l 0 .e (fun _ _=>zv6 _) j x h with⟨h1,_⟩|⟨_,h2⟩
 .omega
 .exact h2
theorem zj3{α:Type}:∀ (m:List Bool) (l:List α) (j:Nat) (x:α),(zhl m l)[j]?=some (some x)->l[j]?=some x
 | [],l,j,x,h=>by cases h
 | true::_,[],j,x,h=>by cases h
 | false::_,[],j,x,h=>by cases h
 | true::m,y::l,0,x,h=>by simpa[zhl]using h
 | true::m,y::l,j+1,x,h=>by simpa using zj3 m l j x (by simpa[zhl]using h)
 | false::m,y::l,0,x,h=>by simp[zhl]at h
 | false::m,y::l,j+1,x,h=>by simpa using zj3 m l j x (by simpa[zhl]using h)
theorem zk6{S:zd}:∀ (l:List (Option Func)) (i:Nat),zjQ S i l=true->∀ j fn,l[j]?=some (some fn)->okF S (i+j) fn=true
 | [],_,_,j,fn,h=>by cases h
 | none::l,i,hk,0,fn,h=>by simp at h
 | none::l,i,hk,j+1,fn,h=>by
  have:=zk6 l (i+1) hk j fn (by simpa using h)
  rwa [show i+(j+1)=i+1+j by omega]
 | some g::l,i,hk,0,fn,h=>by
  unfold zjQ at hk
  rw[Bool.and_eq_true]at hk
  simp at h;subst h;exact hk.1
 | some g::l,i,hk,j+1,fn,h=>by
  unfold zjQ at hk
  rw[Bool.and_eq_true]at hk
  have:=zk6 l (i+1) hk.2 j fn (by simpa using h)
  rwa [show i+(j+1)=i+1+j by omega]
theorem zBj{S:zd}{FT:Tr (Option Func)}{m:List Bool}(hF:∀ f,S.fn f=gX (pa f) FT)(hT:FT=zgV (zhl m S.P.funcs.toList) 0 .e)(hk:zjQ S 0 (zhl m S.P.funcs.toList)=true):
 ∀ f fn,S.fn f=some fn->S.P.funcs[f]?=some fn/\(fn.name== "runtime.NumGoroutine")=false/\∀ c,fn.body=some c->okC fn.ntmps false (AC.of (S.plan f) c)=true:=by
 intro f fn h
 rw[hF]at h
 have h1:=zrp hT h
 have h2:=zj3 _ _ _ _ h1
 have h3:=zk6 _ _ hk _ _ h1
 rw[Nat.zero_add]at h3
 unfold okF at h3
 rw[Bool.and_eq_true]at h3
 refine⟨by simpa using h2,by simpa using h3.1,fun c hc=>?_⟩
 have:=h3.2
 rw[hc]at this;exact this
theorem zBi{S:zd}{TT:Tr (Option TypeInfo)}{l:List TypeInfo}(hF:∀ t,S.ty t=gX (pa t) TT){m:List Bool}(hT:TT=zgV (zhl m l) 0 .e)(hi:∀ (t:Nat) i,l[t]?=some i->S.P.info? t=some i):TyOk S:=by
 refine⟨fun t i h=>?_⟩
 rw[hF]at h
 exact hi t i (zj3 _ _ _ _ (zrp hT h))
end Go.Bm
/-! A function's body, piece by piece. -/
namespace Go.Bm
open Go Go.RowKit
variable {S:zd}{nt:Nat}{c c1 c2:AC}{s s1 s2:St}{e:Ex}
def zaB(S:zd)(nt:Nat)(c:AC)(s:St)(e:Ex)(s':St):Prop:=∀ (C:Ctx) (γ:Nat->Option G) (a:Act) (w:World) (rd:Option Nat),
 okC nt rd.isSome c=true->nt<=a.tmps.size->yC S C->Rel C γ s.h w->yF γ s.σ a.tmps->DRs γ s.d a.defers->
 c.code.wpIn (FW rd) 0 S.P (fun x a' w'=>x=zeO e/\Out C γ s.h a.tmps.size s' a' w') a w
theorem zaB.ev(hS:SOk S)(hm:S.P.follows .mixedOrders=true){n:Nat}(h:ev S n c s=some (e,s1)):zaB S nt c s e s1:=zqW hS (zs9 hS.toVOk hm) n nt c s e s1 h
open Classical in
def zp5(B:AC)(s:St)(e:Ex)(s':St):Rc:=fun c t=>if c=B/\t=s then some (e,s') else none
theorem zxX(h:∀ nt,zaB S nt c s e s1):zmF S (zp5 c s e s1):=by
 intro nt c' t e' s' hv
 unfold zp5 at hv
 split at hv
 .rename_i hc
  obtain⟨rfl,rfl⟩:=hc
  cases hv
  exact h nt
 .cases hv
end Go.Bm
/-! Other names for texts and objects. -/
namespace Go.Bm
open Go Go.RowKit
structure Mu where
 t:Nat->List Ck
 o:Nat->Nat
variable {S:zd}{γ γ' γ1:Nat->Option G}{C:Ctx}{h h':Hp}{w w':World}{μ:Mu}{N:Nat}
def zoa(μ:Mu):List Ck->List Ck
 | []=>[]
 | .k n c::l=>zeP [.k n c] (zoa μ l)
 | .q i::l=>zeP (μ.t i) (zoa μ l)
def zge(μ:Mu):List Nat->Nat×List Nat
 | []=>(0,[])
 | q::l=>match zgh (μ.t q),zge μ l with|(n,qs),(m,rs)=>(Nat.add n m,qs++rs)
def zod(μ:Mu):BV->BV
 | .rp l=>zqk (zoa μ l)
 | .ia c ps ns=>match zge μ ps,zge μ ns with
  | (a,p),(b,n)=>match zgr p n with|(p',n')=>zvN (zkx (zgY c (.ofNat a)) (.ofNat b)) p' n'
 | .sx i c qs=>match zge μ qs with|(a,q)=>sxV (μ.o i) (Nat.add c a) q
 | .p i off=>.p (μ.o i) off
 | .sl i off n c=>.sl (μ.o i) off n c
 | .sg k i off n=>.sg k (μ.o i) off n
 | .m i=>.m (μ.o i)
 | .y i=>.y (μ.o i)
 | x=>x
def zjR(f:BV->BV):List BV->List BV
 | []=>[]
 | x::l=>f x::zjR f l
def zvo(μ:Mu):BV->BV
 | .a l=>.a (zjR (zod μ) l)
 | .t l=>.t (zjR (zod μ) l)
 | .f g fs cs=>.f g (zjR (zod μ) fs) (zjR (zod μ) cs)
 | x=>zod μ x
def zA8(μ:Mu):BV->BV
 | .a l=>.a (zjR (zvo μ) l)
 | .t l=>.t (zjR (zvo μ) l)
 | .f g fs cs=>.f g (zjR (zvo μ) fs) (zjR (zvo μ) cs)
 | x=>zod μ x
structure Ren(μ:Mu)(γ γ':Nat->Option G):Prop where
 tx:∀ i g,γ i=some g->zG γ' (μ.t i) g.T
 ob:∀ i g,γ i=some g->∃ g',γ' (μ.o i)=some g'/\g'.b=g.b/\g'.k=g.k/\g'.C=g.C/\g'.L=g.L
theorem zkw(hR:Ren μ γ γ'){l:List Ck}{t:List UInt8}(h:zG γ l t):zG γ' (zoa μ l) t:=by
 induction h with
 | nil=>exact .nil
 | k n c hc r ih=>
  have:=zG.cat (zG.k (γ:=γ') n c hc .nil) ih
  rwa [List.append_nil]at this
 | q i g hg r ih=>exact(hR.tx i g hg).cat ih
theorem zib(hR:Ren μ γ γ'){l:List Nat}{n:Nat}(h:zH γ l n):∃ m,zH γ' (zge μ l).2 m/\n=(zge μ l).1+m:=by
 induction h with
 | nil=>exact⟨0,.nil,rfl⟩
 | cons i g hg r ih=>
  obtain⟨m,h1,h2⟩:=ih
  obtain⟨k,h3,h4⟩:=zag (hR.tx i g hg)
  refine⟨k+m,h3.app h1,?_⟩
  show _=(zgh (μ.t i)).1+(zge μ _).1+(k+m)
  omega
theorem zDV(hR:Ren μ γ γ'){x:BV}(hn:∀ l,x≠.a l/\x≠.t l)(hf:∀ g fs cs,x≠.f g fs cs){v:Value}(h:zf γ x v):zf γ' (zod μ x) v:=by
 cases h with
 | u v=>exact .u v
 | b x=>exact .b x
 | i k n=>exact .i k n
 | s n c hc=>exact .s n c hc
 | np=>exact .np
 | ns=>exact .ns
 | nm=>exact .nm
 | nf=>exact .nf
 | ni=>exact .ni
 | p id off g hg=>
  obtain⟨g',h1,h2,h3,h4,h5⟩:=hR.ob _ _ hg
  have:=zf.p (γ:=γ') (μ.o id) off g' h1
  rwa [h2]at this
 | g g off=>exact .g g off
 | sl id off len cap g hg hc=>
  obtain⟨g',h1,h2,h3,h4,h5⟩:=hR.ob _ _ hg
  have:=zf.sl (γ:=γ') (μ.o id) off len cap g' h1 hc
  rwa [h2]at this
 | sg k id off len g o hg hk h0 ho hc=>
  obtain⟨g',h1,h2,h3,h4,h5⟩:=hR.ob _ _ hg
  have:=zf.sg (γ:=γ') k (μ.o id) off len g' o h1 (by rw[h3];exact hk) h0 ho (by rw[h4];exact hc)
  rwa [h2,h4]at this
 | se a c=>exact .se a c
 | m id g hg=>
  obtain⟨g',h1,h2,h3,h4,h5⟩:=hR.ob _ _ hg
  have:=zf.m (γ:=γ') (μ.o id) g' h1
  rwa [h2]at this
 | f fn fs cs vf vc h1 h2=>exact absurd rfl (hf _ _ _)
 | y l g hg=>
  obtain⟨g',h1,h2,h3,h4,h5⟩:=hR.ob _ _ hg
  have:=zf.y (γ:=γ') (μ.o l) g' h1
  rwa [h2]at this
 | a l vs h=>exact absurd rfl (hn _).1
 | t l vs h=>exact absurd rfl (hn _).2
 | rp l t ht=>exact zeZ (zkw hR ht)
 | ia c ps ns a b h1 h2 hr=>
  obtain⟨m1,p1,p2⟩:=zib hR h1
  obtain⟨m2,q1,q2⟩:=zib hR h2
  obtain⟨p,q,k1,k2,k3⟩:=zaU p1 q1
  have e:c+(a:Int)-b=zkx (zgY c (.ofNat (zge μ ps).1)) (.ofNat (zge μ ns).1)+p-q:=by
   rw[zeb,zdA];simp only[Int.ofNat_eq_natCast];omega
  rw[e]at hr ⊢
  exact zqm k1 k2 hr
 | sx id c qs n g hg hk hl hc=>
  obtain⟨g',h1,h2,h3,h4,h5⟩:=hR.ob _ _ hg
  obtain⟨m,p1,p2⟩:=zib hR hl
  have e:c+n=c+(zge μ qs).1+m:=by omega
  have:=zea (γ:=γ') (id:=μ.o id) (c:=c+(zge μ qs).1) h1 (by rw[h3];exact hk) p1 (by rw[h4,<-e];exact hc)
  rw[h2,h4,<-e]at this
  exact this
theorem zcj{f:BV->BV}{l:List BV}{r:List Value}(h:zm γ l r)(hf:∀ x ∈ l,∀ v,zf γ x v->zf γ' (f x) v):zm γ' (zjR f l) r:=by
 induction l generalizing r with
 | nil=>rw[h.nil_inv];exact .nil
 | cons x l ih=>
  obtain⟨v,r',rfl,h1,h2⟩:=h.cons_inv
  exact .cons (hf x (by simp) v h1) (ih h2 fun y hy=>hf y (by simp[hy]))
def zqQ:BV->Bool
 | .a _=>false
 | .t _=>false
 | .f _ _ _=>false
 | _=>true
def zbR(p:BV->Bool):List BV->Bool
 | []=>true
 | x::l=>and (p x) (zbR p l)
theorem zT{p:BV->Bool}{l:List BV}(h:zbR p l=true):∀ x ∈ l,p x=true:=by
 induction l with
 | nil=>intro x hx;cases hx
 | cons y l ih=>
  unfold zbR at h
  rw[Bool.and_eq_true]at h
  intro x hx
  rcases List.mem_cons.1 hx with rfl|hx
  .exact h.1
  .exact ih h.2 x hx
def znt:BV->Bool
 | .a l=>zbR zqQ l
 | .t l=>zbR zqQ l
 | .f _ fs cs=>and (zbR zqQ fs) (zbR zqQ cs)
 | _=>true
def zuK:BV->Bool
 | .a l=>zbR znt l
 | .t l=>zbR znt l
 | .f _ fs cs=>and (zbR znt fs) (zbR znt cs)
 | _=>true
theorem zfD(hR:Ren μ γ γ'){x:BV}(hf:zqQ x=true){v:Value}(h:zf γ x v):zf γ' (zod μ x) v:=
 zDV hR (fun l=>⟨fun e=>(by subst e;cases hf),fun e=>(by subst e;cases hf)⟩) (fun g fs cs e=>(by subst e;cases hf)) h
theorem zob(hR:Ren μ γ γ'){x:BV}(hf:znt x=true){v:Value}(h:zf γ x v):zf γ' (zvo μ x) v:=by
 cases x <;> (try exact zfD hR rfl h)
 case a l=>cases h with|a _ vs hv=>exact .a _ _ (zcj hv fun y hy v hv=>zfD hR (zT hf y hy) hv)
 case t l=>cases h with|t _ vs hv=>exact .t _ _ (zcj hv fun y hy v hv=>zfD hR (zT hf y hy) hv)
 case f g fs cs=>
  cases h with|f _ _ _ vf vc h1 h2=>
  unfold znt at hf
  rw[Bool.and_eq_true]at hf
  exact .f _ _ _ _ _ (zcj h1 fun y hy v hv=>zfD hR (zT hf.1 y hy) hv) (zcj h2 fun y hy v hv=>zfD hR (zT hf.2 y hy) hv)
theorem zDT(hR:Ren μ γ γ'){x:BV}(hf:zuK x=true){v:Value}(h:zf γ x v):zf γ' (zA8 μ x) v:=by
 cases x <;> (try exact zfD hR rfl h)
 case a l=>cases h with|a _ vs hv=>exact .a _ _ (zcj hv fun y hy v hv=>zob hR (zT hf y hy) hv)
 case t l=>cases h with|t _ vs hv=>exact .t _ _ (zcj hv fun y hy v hv=>zob hR (zT hf y hy) hv)
 case f g fs cs=>
  cases h with|f _ _ _ vf vc h1 h2=>
  unfold zuK at hf
  rw[Bool.and_eq_true]at hf
  exact .f _ _ _ _ _ (zcj h1 fun y hy v hv=>zob hR (zT hf.1 y hy) hv) (zcj h2 fun y hy v hv=>zob hR (zT hf.2 y hy) hv)
def okR(S:zd):List Ck->Bool
 | []=>true
 | .k n c::l=>and (Nat.blt c (Nat.pow 256 n)) (okR S l)
 | .q i::l=>and (S.bd i).isSome (okR S l)
def okQ(S:zd):List Nat->Bool
 | []=>true
 | q::l=>and (S.bd q).isSome (okQ S l)
def ok1(S:zd)(N:Nat):BV->Bool
 | .rp l=>okR S l
 | .ia c ps ns=>and (zoJ S c (ps,ns)).isSome (and (okQ S ps) (okQ S ns))
 | .sx i _ qs=>and (Nat.blt i N) (okQ S qs)
 | .p i _=>Nat.blt i N
 | .sl i _ _ _=>Nat.blt i N
 | .sg _ i _ _=>Nat.blt i N
 | .m i=>Nat.blt i N
 | .y i=>Nat.blt i N
 | .a _=>false
 | .t _=>false
 | .f _ _ _=>false
 | _=>true
def ok2(S:zd)(N:Nat):BV->Bool
 | .a l=>zbR (ok1 S N) l
 | .t l=>zbR (ok1 S N) l
 | .f _ fs cs=>and (zbR (ok1 S N) fs) (zbR (ok1 S N) cs)
 | x=>ok1 S N x
def ok3(S:zd)(N:Nat):BV->Bool
 | .a l=>zbR (ok2 S N) l
 | .t l=>zbR (ok2 S N) l
 | .f _ fs cs=>and (zbR (ok2 S N) fs) (zbR (ok2 S N) cs)
 | x=>ok1 S N x
def Def(S:zd)(γ:Nat->Option G):Prop:=∀ q a b,S.bd q=some (a,b)->∃ g,γ q=some g/\a<=g.T.length/\g.T.length<=b
theorem Def.got(hD:Def S γ){q:Nat}(h:(S.bd q).isSome=true):∃ g,γ q=some g:=by
 obtain⟨p,hp⟩:=Option.isSome_iff_exists.1 h
 obtain⟨a,b⟩:=p
 obtain⟨g,hg,_⟩:=hD q a b hp
 exact⟨g,hg⟩
theorem Def.bdQ(hD:Def S γ):∀ {l:List Nat} {a b:Nat},Bm.bdQ S l=some (a,b)->∀ {n},zH γ l n->a<=n/\n<=b
 | [],a,b,hb,n,k=>by cases hb;rw[k.nil_inv];exact⟨Nat.le_refl _,Nat.le_refl _⟩
 | q::l,a,b,hb,n,k=>by
  unfold Bm.bdQ at hb
  split at hb
  .rename_i a1 b1 a2 b2 e1 e2
   cases hb
   obtain⟨g,m,h1,rfl,h2⟩:=k.inv
   obtain⟨g',g1,t2,t3⟩:=hD _ _ _ e1
   rw[h1]at g1;cases g1
   obtain⟨i1,i2⟩:=Def.bdQ hD e2 h2
   exact⟨Nat.add_le_add t2 i1,Nat.add_le_add t3 i2⟩
  .cases hb
theorem Def.ia(hD:Def S γ){c:Int}{p n:List Nat}(h:(zoJ S c (p,n)).isSome=true){x y:Nat}(h1:zH γ p x)(h2:zH γ n y):IntKind.i64.has (c+x-y):=by
 unfold zoJ bdL at h
 dsimp only at h
 cases e1:Bm.bdQ S p with
 | none=>rw[e1]at h;cases h
 | some q1=>cases e2:Bm.bdQ S n with
  | none=>rw[e1,e2]at h;cases h
  | some q2=>
   obtain⟨a1,b1⟩:=q1
   obtain⟨a2,b2⟩:=q2
   rw[e1,e2]at h
   dsimp only at h
   obtain⟨p1,p2⟩:=hD.bdQ e1 h1
   obtain⟨q1,q2⟩:=hD.bdQ e2 h2
   split at h
   .rename_i hc
    rw[Bool.and_eq_true,zem,zem]at hc
    have c1:=of_decide_eq_true hc.1
    have c2:=of_decide_eq_true hc.2
    simp only[zdA,zeb,Int.negSucc_eq,Int.ofNat_eq_natCast]at c1 c2
    simp only[IntKind.has,IntKind.min,IntKind.max,IntKind.signed,IntKind.bits]
    simp
    omega
   .cases h
theorem zhj(hD:Def S γ):∀ {l:List Ck},okR S l=true->∃ t,zG γ l t
 | [],_=>⟨[],.nil⟩
 | .k n c::l,h=>by
  unfold okR at h
  rw[Bool.and_eq_true]at h
  obtain⟨t,ht⟩:=zhj hD h.2
  exact⟨_,.k n c (zS h.1) ht⟩
 | .q i::l,h=>by
  unfold okR at h
  rw[Bool.and_eq_true]at h
  obtain⟨t,ht⟩:=zhj hD h.2
  obtain⟨g,hg⟩:=hD.got h.1
  exact⟨_,.q i g hg ht⟩
theorem zj2(hD:Def S γ):∀ {l:List Nat},okQ S l=true->∃ n,zH γ l n
 | [],_=>⟨0,.nil⟩
 | q::l,h=>by
  unfold okQ at h
  rw[Bool.and_eq_true]at h
  obtain⟨n,hn⟩:=zj2 hD h.2
  obtain⟨g,hg⟩:=hD.got h.1
  exact⟨_,.cons q g hg hn⟩
theorem zys{l:List Ck}{v:Value}(h:zf γ (zqk l) v){t:List UInt8}(ht:zG γ l t):v=.string ⟨t.toArray⟩:=by
 unfold zqk at h
 split at h
 .rw [ht.nil_inv];cases h;rfl
 .obtain ⟨_,u,rfl,h2⟩:=ht.k_inv
  rw[h2.nil_inv,List.append_nil];cases h;rfl
 .cases h with|rp _ u hu=>rw[hu.det ht]
theorem zyu{c:Int}{p n:List Nat}{v:Value}(h:zf γ (zvN c p n) v){x y:Nat}(h1:zH γ p x)(h2:zH γ n y):v=.int .i64 (c+x-y):=by
 unfold zvN at h
 split at h
 .rw [h1.nil_inv,h2.nil_inv];cases h;congr 1;simp
 .cases h with|ia _ _ _ a b k1 k2 hr=>rw[k1.det h1,k2.det h2]
theorem zA3{i c:Nat}{q:List Nat}{v:Value}(h:zf γ (sxV i c q) v){m:Nat}(hm:zH γ q m):∃ g,γ i=some g/\g.k=1/\c+m<=g.C/\v=.slice (some ⟨g.b,0,none⟩) (c+m) g.C:=by
 unfold sxV at h
 split at h
 .rw [hm.nil_inv]
  cases h with|sg _ _ _ _ g o hg hk h0 ho hc=>
  have:o=0:=by omega
  subst this
  exact⟨g,hg,hk,by omega,rfl⟩
 .cases h with|sx _ _ _ n g hg hk hl hc=>rw[hl.det hm]at hc ⊢;exact⟨g,hg,hk,hc,rfl⟩
def Bak(μ:Mu)(N:Nat)(γ γ':Nat->Option G):Prop:=∀ i g',i<N->γ' (μ.o i)=some g'->∃ g,γ i=some g/\g'.b=g.b/\g'.k=g.k/\g'.C=g.C/\g'.L=g.L
theorem zid(hD:Def S γ)(hR:Ren μ γ γ')(hB:Bak μ N γ γ'){x:BV}(hx:ok1 S N x=true){v:Value}(h:zf γ' (zod μ x) v):zf γ x v:=by
 cases x <;> (try (cases hx;done)) <;> (try (cases h;first|exact .u _|exact .b _|exact .i _ _|exact .np|exact .ns|exact .nm|exact .nf|exact .ni|exact .g _ _|exact .se _ _))
 case s n c=>cases h with|s _ _ hc=>exact .s n c hc
 case p id off=>
  cases h with|p _ _ g' hg'=>
  obtain⟨g,h1,h2,h3,h4,h5⟩:=hB _ _ (zS hx) hg'
  rw[h2];exact .p id off g h1
 case sl id off len cap=>
  cases h with|sl _ _ _ _ g' hg' hc=>
  obtain⟨g,h1,h2,h3,h4,h5⟩:=hB _ _ (zS hx) hg'
  rw[h2];exact .sl id off len cap g h1 hc
 case sg k id off len=>
  cases h with|sg _ _ _ _ g' o hg' hk h0 ho hc=>
  obtain⟨g,h1,h2,h3,h4,h5⟩:=hB _ _ (zS hx) hg'
  rw[h2,h4];exact .sg k id off len g o h1 (by rw[<-h3];exact hk) h0 ho (by rw[<-h4];exact hc)
 case m id=>
  cases h with|m _ g' hg'=>
  obtain⟨g,h1,h2,h3,h4,h5⟩:=hB _ _ (zS hx) hg'
  rw[h2];exact .m id g h1
 case y l=>
  cases h with|y _ g' hg'=>
  obtain⟨g,h1,h2,h3,h4,h5⟩:=hB _ _ (zS hx) hg'
  rw[h2];exact .y l g h1
 case rp l=>
  obtain⟨t,ht⟩:=zhj hD hx
  rw[zys h (zkw hR ht)];exact .rp l t ht
 case ia c ps ns=>
  unfold ok1 at hx
  rw[Bool.and_eq_true,Bool.and_eq_true]at hx
  obtain⟨a,ha⟩:=zj2 hD hx.2.1
  obtain⟨b,hb⟩:=zj2 hD hx.2.2
  obtain⟨m1,p1,p2⟩:=zib hR ha
  obtain⟨m2,q1,q2⟩:=zib hR hb
  obtain⟨p,q,k1,k2,k3⟩:=zaU p1 q1
  have e:=zyu h k1 k2
  have e2:c+(a:Int)-b=zkx (zgY c (.ofNat (zge μ ps).1)) (.ofNat (zge μ ns).1)+p-q:=by
   rw[zeb,zdA];simp only[Int.ofNat_eq_natCast];omega
  rw[e,<-e2]
  exact .ia c ps ns a b ha hb (hD.ia hx.1 ha hb)
 case sx i c qs=>
  unfold ok1 at hx
  rw[Bool.and_eq_true]at hx
  obtain⟨n,hn⟩:=zj2 hD hx.2
  obtain⟨m,p1,p2⟩:=zib hR hn
  obtain⟨g',k1,k2,k3,k4⟩:=zA3 h p1
  obtain⟨g,h1,h2,h3,h4,h5⟩:=hB _ _ (zS hx.1) k1
  have e:Nat.add c (zge μ qs).1+m=c+n:=by show c+_+m=_;omega
  have k3:Nat.add c (zge μ qs).1+m<=g'.C:=k3
  have k4:v=.slice (some ⟨g'.b,0,none⟩) (Nat.add c (zge μ qs).1+m) g'.C:=k4
  rw[k4,e,h2,h4]
  rw[e,h4]at k3
  exact .sx i c qs n g h1 (by rw[<-h3];exact k2) hn k3
theorem zbx{f:BV->BV}{l:List BV}{r:List Value}(h:zm γ' (zjR f l) r)(hf:∀ x ∈ l,∀ v,zf γ' (f x) v->zf γ x v):zm γ l r:=by
 induction l generalizing r with
 | nil=>rw[h.nil_inv];exact .nil
 | cons x l ih=>
  obtain⟨v,r',rfl,h1,h2⟩:=zm.cons_inv (show zm γ' (f x::zjR f l) r from h)
  exact .cons (hf x (by simp) v h1) (ih h2 fun y hy=>hf y (by simp[hy]))
theorem zoc(hD:Def S γ)(hR:Ren μ γ γ')(hB:Bak μ N γ γ'){x:BV}(hx:ok2 S N x=true){v:Value}(h:zf γ' (zvo μ x) v):zf γ x v:=by
 cases x <;> (try (refine zid hD hR hB ?_ ?_ <;> first|exact hx|exact h))
 case a l=>cases h with|a _ vs hv=>exact .a _ _ (zbx hv fun y hy v hv=>zid hD hR hB (zT hx y hy) hv)
 case t l=>cases h with|t _ vs hv=>exact .t _ _ (zbx hv fun y hy v hv=>zid hD hR hB (zT hx y hy) hv)
 case f g fs cs=>
  cases h with|f _ _ _ vf vc h1 h2=>
  unfold ok2 at hx
  rw[Bool.and_eq_true]at hx
  exact .f _ _ _ _ _ (zbx h1 fun y hy v hv=>zid hD hR hB (zT hx.1 y hy) hv) (zbx h2 fun y hy v hv=>zid hD hR hB (zT hx.2 y hy) hv)
theorem zDU(hD:Def S γ)(hR:Ren μ γ γ')(hB:Bak μ N γ γ'){x:BV}(hx:ok3 S N x=true){v:Value}(h:zf γ' (zA8 μ x) v):zf γ x v:=by
 cases x <;> (try (refine zid hD hR hB ?_ ?_ <;> first|exact hx|exact h))
 case a l=>cases h with|a _ vs hv=>exact .a _ _ (zbx hv fun y hy v hv=>zoc hD hR hB (zT hx y hy) hv)
 case t l=>cases h with|t _ vs hv=>exact .t _ _ (zbx hv fun y hy v hv=>zoc hD hR hB (zT hx y hy) hv)
 case f g fs cs=>
  cases h with|f _ _ _ vf vc h1 h2=>
  unfold ok3 at hx
  rw[Bool.and_eq_true]at hx
  exact .f _ _ _ _ _ (zbx h1 fun y hy v hv=>zoc hD hR hB (zT hx.1 y hy) hv) (zbx h2 fun y hy v hv=>zoc hD hR hB (zT hx.2 y hy) hv)
end Go.Bm
/-! States ztT other names. -/
namespace Go.Bm
open Go Go.RowKit
noncomputable section
variable {S:zd}{γ γ' γ1:Nat->Option G}{C:Ctx}{h h':Hp}{w w':World}{μ:Mu}{N:Nat}
def zpH(f:BV->BV):Tr BV->Tr BV:=Tr.rec (motive:=fun _=>Tr BV) .e (fun v _ _ _ _ _ _ _ _ i0 i1 i2 i3 i4 i5 i6 i7=>.n (f v) i0 i1 i2 i3 i4 i5 i6 i7)
theorem zB8{f:BV->BV}(hf:f .u=.u)(p:Pa):∀ t,gB p (zpH f t)=f (gB p t):=by
 induction p with
 | z=>intro t;cases t with
  | e=>exact hf.symm
  | n=>rfl
 | _ p ih=>intro t;cases t with
  | e=>exact hf.symm
  | n=>exact ih _
theorem zpG{f:BV->BV}(hf:f .u=.u)(t:Tr BV)(i:Nat):(zpH f t).get i=f (t.get i):=zB8 hf _ _
def zxB(μ:Mu)(x:BV):BV:=match zuK x with|true=>zA8 μ x|false=>.u
theorem zpR(hR:Ren μ γ γ'){x:BV}{v:Value}(h:zf γ x v):zf γ' (zxB μ x) v:=by
 unfold zxB
 cases hf:zuK x with
 | true=>exact zDT hR hf h
 | false=>exact .u v
def zvn(μ:Mu):Ob->Ob
 | .c e n t=>.c e n (zpH (zxB μ) t)
 | .bs e fz n c=>.bs e fz n c
 | .br e fz l=>.br e fz (zoa μ l)
 | _=>.x
def zbK:List (Nat×Ob)->Tr Ob
 | []=>.e
 | x::l=>sO (pa x.1) (zbK l) x.2
def lkO(i:Nat):List (Nat×Ob)->Ob
 | []=>.x
 | x::l=>match Nat.beq i x.1 with|true=>x.2|false=>lkO i l
theorem zc0(n i:Nat):∀ l,Hp.get ⟨n,zbK l⟩ i=lkO i l
 | []=>zqG _
 | x::l=>by
  have:=Hp.get_set ⟨n,zbK l⟩ x.1 i x.2
  show Hp.get ⟨n,sO (pa x.1) (zbK l) x.2⟩ i=_
  rw[show(⟨n,sO (pa x.1) (zbK l) x.2⟩:Hp)=Hp.set ⟨n,zbK l⟩ x.1 x.2 from rfl,this,zc0 n i l]
  have e0:lkO i (x::l)=match Nat.beq i x.1 with|true=>x.2|false=>lkO i l:=rfl
  rw[e0]
  by_cases e:i=x.1
  .rw [if_pos e,e,Nat.beq_refl]
  .rw [if_neg e,zdI e]
theorem zuq{i:Nat}:∀ {l:List (Nat×Ob)},lkO i l≠.x->(i,lkO i l) ∈ l
 | [],h=>absurd rfl h
 | x::l,h=>by
  unfold lkO at h ⊢
  cases e:Nat.beq i x.1 with
  | true=>
   rw[e]at h
   have:=Nat.eq_of_beq_eq_true e
   subst this
   exact List.mem_cons_self
  | false=>
   rw[e]at h
   exact List.mem_cons_of_mem _ (zuq h)
structure PS where
 σ:Tr BV
 n:Nat
 l:List (Nat×Ob)
def PS.st(p:PS):St:=⟨p.σ,⟨p.n,zbK p.l⟩,[]⟩
def zyy(f:Ob->Ob):List (Nat×Ob)->List (Nat×Ob)
 | []=>[]
 | x::l=>(x.1,f x.2)::zyy f l
theorem zur{f:Ob->Ob}(hf:f .x=.x)(i:Nat):∀ l,lkO i (zyy f l)=f (lkO i l)
 | []=>hf.symm
 | x::l=>by
  show lkO i ((x.1,f x.2)::zyy f l)=_
  unfold lkO
  cases Nat.beq i x.1 with
  | true=>rfl
  | false=>exact zur hf i l
def sbP(μ:Mu)(p:PS):PS:=⟨zpH (zxB μ) p.σ,p.n,zyy (zvn μ) p.l⟩
abbrev In:=Nat->List UInt8
def tx(I:In):List Ck->List UInt8
 | []=>[]
 | .k n c::l=>dec n c++tx I l
 | .q i::l=>I i++tx I l
def syI(S:zd)(I:In):Nat->Option (List UInt8):=fun q=>match S.bd q with|some _=>some (I q)|none=>none
theorem zkv{I:In}{q:Nat}(h:(S.bd q).isSome=true):syI S I q=some (I q):=by
 unfold syI
 split
 .rfl
 .rename_i e;rw[e]at h;cases h
theorem zn8{I:In}{q:Nat}{t:List UInt8}(h:syI S I q=some t):(S.bd q).isSome=true/\I q=t:=by
 unfold syI at h
 split at h
 .rename_i e;cases h;exact⟨by rw[e];rfl,rfl⟩
 .cases h
structure BdI(S:zd)(I:In):Prop where
 bd:∀ q a b,S.bd q=some (a,b)->a<=(I q).length/\(I q).length<=b
 sy:∀ q t,S.sy q=some t->(S.bd q).isSome=true/\I q=t
def cx(C:Ctx)(S:zd)(I:In):Ctx:=⟨C.F,C.os,C.tape,C.output,syI S I⟩
structure TbOk(S:zd)(C:Ctx):Prop where
 gt:∀ g l,S.gt g=some l->∃ e m,C.F g=some (.cells (l.map fun z=>Value.int .u64 (.ofNat z)).toArray e m)
theorem gtOk{I:In}(hT:TbOk S C)(hB:BdI S I):yC S (cx C S I):=
 ⟨hT.gt,fun q t h=>by obtain⟨h1,h2⟩:=hB.sy q t h;show syI S I q=_;rw[zkv h1,h2],
  fun q a b h=>⟨I q,zkv (by rw[h];rfl),hB.bd q a b h⟩⟩
theorem zkV{I:In}(r:Rel (cx C S I) γ h w){q:Nat}(hq:(S.bd q).isSome=true):∃ g,γ q=some g/\g.T=I q:=r.sy q (I q) (zkv hq)
theorem zn1{I:In}(hs:∀ q,(S.bd q).isSome=true->∃ g,γ q=some g/\g.T=I q):∀ {l:List Ck},okR S l=true->zG γ l (tx I l)
 | [],_=>.nil
 | .k n c::l,h=>by
  unfold okR at h
  rw[Bool.and_eq_true]at h
  exact .k n c (zS h.1) (zn1 hs h.2)
 | .q i::l,h=>by
  unfold okR at h
  rw[Bool.and_eq_true]at h
  obtain⟨g,h1,h2⟩:=hs i h.1
  have:=zG.q (γ:=γ) i g h1 (zn1 hs h.2)
  rwa [h2]at this
open Classical in
def reT(S:zd)(I:In)(γ:Nat->Option G):Nat->Option G:=fun i=>match γ i with
 | some g=>some (if(S.bd i).isSome=true then { g with T:=I i } else g)
 | none=>none
theorem zeU{I:In}{i:Nat}{g:G}(h:γ i=some g):reT S I γ i=some (if(S.bd i).isSome=true then { g with T:=I i } else g):=by
 unfold reT;rw[h]
theorem zBv{I:In}{i:Nat}{g':G}(h:reT S I γ i=some g'):∃ g,γ i=some g/\g'=if(S.bd i).isSome=true then { g with T:=I i } else g:=by
 unfold reT at h
 split at h
 .rename_i g hg;cases h;exact⟨g,hg,rfl⟩
 .cases h
theorem zxY{I:In}{i:Nat}{g':G}(h:reT S I γ i=some g'):∃ g,γ i=some g/\g'.b=g.b/\g'.k=g.k/\g'.C=g.C/\g'.L=g.L:=by
 obtain⟨g,h1,rfl⟩:=zBv h
 refine⟨g,h1,?_⟩
 split <;> exact⟨rfl,rfl,rfl,rfl⟩
theorem zua{I:In}{i:Nat}(h:γ i=none):reT S I γ i=none:=by unfold reT;rw[h]
theorem zBw{I:In}(hs:∀ q,(S.bd q).isSome=true->∃ g,γ q=some g):∀ q,(S.bd q).isSome=true->∃ g,reT S I γ q=some g/\g.T=I q:=fun q hq=>by
 obtain⟨g,hg⟩:=hs q hq
 exact⟨_,zeU hg,by rw[if_pos hq]⟩
theorem OM.reT{I:In}(hR:Ren μ γ (reT S I γ))(ho:∀ i,μ.o i=i){i:Nat}{o:Ob}(h:OM γ w i o):OM (Bm.reT S I γ) w i (zvn μ o):=by
 have key:∀ {g:G},γ i=some g->∃ g',Bm.reT S I γ i=some g'/\g'.b=g.b/\g'.k=g.k/\g'.C=g.C:=fun {g} hg=>by
  obtain⟨g',h1,h2,h3,h4,_⟩:=hR.ob i g hg
  rw[ho]at h1
  exact⟨g',h1,h2,h3,h4⟩
 cases o with
 | c e n t=>
  obtain⟨g,vs,h1,h2,h3,h4,h5⟩:=h
  obtain⟨g',k1,k2,k3,k4⟩:=key h1
  refine⟨g',vs,k1,by rw[k2];exact h2,h3,by rw[k3,k4];exact h4,fun j hj=>⟨?_,(h5 j hj).2⟩⟩
  rw[zpG rfl];exact zpR hR (h5 j hj).1
 | bs e fz n c=>
  obtain⟨g,vs,m,h1,h2,h3,h4,h5⟩:=h
  obtain⟨g',k1,k2,k3,k4⟩:=key h1
  exact⟨g',vs,m,k1,by rw[k2];exact h2,by rw[k3];exact h3,by rw[k4];exact h4,h5⟩
 | br e fz l=>
  obtain⟨g,vs,m,t,h1,h2,h3,h4,h5,h6⟩:=h
  obtain⟨g',k1,k2,k3,k4⟩:=key h1
  exact⟨g',vs,m,t,k1,by rw[k2];exact h2,by rw[k3];exact h3,by rw[k4];exact h4,zkw hR h5,h6⟩
 | x=>trivial
 | mp l=>trivial
 | lp fn σ ps asg body d st pe=>trivial
 | df=>trivial
 | it n c=>trivial
theorem zrV{o:Ob}(h:zvn μ o≠.x):o≠.x:=fun e=>by subst e;exact h rfl
theorem zmL{I I':In}{p:PS}{a:Act}(hB:BdI S I)(r:Rel (cx C S I) γ p.st.h w)(hs:yF γ p.st.σ a.tmps)(ho:∀ i,μ.o i=i)(hm:∀ q,(S.bd q).isSome=true->okR S (μ.t q)=true/\I q=tx I' (μ.t q))(hm0:∀ q,(S.bd q).isSome=false->μ.t q=[.q q]):
 Rel (cx C S I') (reT S I' γ) (sbP μ p).st.h w/\yF (reT S I' γ) (sbP μ p).st.σ a.tmps:=by
 have hd:=zBw (S:=S) (γ:=γ) (I:=I') fun q hq=>by obtain⟨g,h1,_⟩:=zkV r hq;exact⟨g,h1⟩
 have hR:Ren μ γ (reT S I' γ):=by
  refine⟨fun i g hg=>?_,fun i g hg=>?_⟩
  .cases hb:(S.bd i).isSome with
   | true=>
    obtain⟨h1,h2⟩:=hm i hb
    obtain⟨g',h3,h4⟩:=zkV r hb
    rw[hg]at h3;cases h3
    rw[h4,h2];exact zn1 hd h1
   | false=>
    rw[hm0 i hb]
    have hb':¬ ((S.bd i).isSome=true):=by rw[hb];simp
    have h5:=zeU (S:=S) (I:=I') hg
    rw[if_neg hb']at h5
    have:=zG.q (γ:=reT S I' γ) i g h5 zG.nil
    rwa [List.append_nil]at this
  .rw [ho]
   refine⟨_,zeU hg,?_⟩
   split <;> exact⟨rfl,rfl,rfl,rfl⟩
 have hget:∀ i,(sbP μ p).st.h.get i=zvn μ (p.st.h.get i):=fun i=>by
  show Hp.get ⟨p.n,zbK (zyy (zvn μ) p.l)⟩ i=zvn μ (Hp.get ⟨p.n,zbK p.l⟩ i)
  rw[zc0,zc0,zur rfl]
 refine⟨⟨fun i=>?_,fun i j g1 g2 hi hj h1 h2 hb=>?_,fun i g hi hg=>?_,fun i hi=>zua (r.us i hi),r.fr,r.os,r.tape,r.output,r.up,fun q t hq=>?_⟩,fun t=>?_⟩
 .rw [hget];exact(r.ob i).reT hR ho
 .rw [hget]at hi hj
  obtain⟨k1,e1,e2,_⟩:=zxY h1
  obtain⟨k2,e3,e4,_⟩:=zxY h2
  exact r.sep i j k1 k2 (zrV hi) (zrV hj) e1 e3 (by rw[<-e2,<-e4];exact hb)
 .rw [hget]at hi
  obtain⟨k1,e1,e2,_⟩:=zxY hg
  rw[e2];exact r.lo i k1 (zrV hi) e1
 .obtain ⟨h1,h2⟩:=zn8 hq
  obtain⟨g,h3,h4⟩:=hd q h1
  exact⟨g,h3,by rw[h4,h2]⟩
 .show zf _ ((zpH (zxB μ) p.σ).get t) _
  rw[zpG rfl];exact zpR hR (hs t)
def isU:BV->Bool
 | .u=>true
 | _=>false
def leV(S:zd)(μ:Mu)(N:Nat)(p x:BV):Bool:=match isU p with
 | true=>true
 | false=>and (ok3 S N p) (eqD (zA8 μ p) x)
def leT(S:zd)(μ:Mu)(N:Nat):Tr BV->Tr BV->Bool:=
 Tr.rec (motive:=fun _=>Tr BV->Bool) (fun _=>true) (fun v _ _ _ _ _ _ _ _ i0 i1 i2 i3 i4 i5 i6 i7 t=>Tr.rec (motive:=fun _=>Bool) (and (isU v) (and (i0 .e) (and (i1 .e) (and (i2 .e) (and (i3 .e) (and (i4 .e) (and (i5 .e) (and (i6 .e) (i7 .e)))))))))
  (fun v' d0 d1 d2 d3 d4 d5 d6 d7 _ _ _ _ _ _ _ _=>and (leV S μ N v v') (and (i0 d0) (and (i1 d1) (and (i2 d2) (and (i3 d3) (and (i4 d4) (and (i5 d5) (and (i6 d6) (i7 d7))))))))) t)
theorem zqx:∀ {p t:Tr BV},leT S μ N p t=true->∀ q,leV S μ N (gB q p) (gB q t)=true:=by
 intro p
 induction p with
 | e=>intro t _ q;rw[zhA];rfl
 | n v c0 c1 c2 c3 c4 c5 c6 c7 i0 i1 i2 i3 i4 i5 i6 i7=>
  intro t h q
  cases t with
  | e=>
   have h:and (isU v) (and (leT S μ N c0 .e) (and (leT S μ N c1 .e) (and (leT S μ N c2 .e) (and (leT S μ N c3 .e) (and (leT S μ N c4 .e) (and (leT S μ N c5 .e) (and (leT S μ N c6 .e) (leT S μ N c7 .e))))))))=true:=h
   simp only[Bool.and_eq_true]at h
   obtain⟨hv,h0,h1,h2,h3,h4,h5,h6,h7⟩:=h
   rw[zhA]
   cases q with
   | z=>show leV S μ N v .u=true;unfold leV;rw[hv]
   | d0 q=>have:=i0 h0 q;rw[zhA]at this;exact this
   | d1 q=>have:=i1 h1 q;rw[zhA]at this;exact this
   | d2 q=>have:=i2 h2 q;rw[zhA]at this;exact this
   | d3 q=>have:=i3 h3 q;rw[zhA]at this;exact this
   | d4 q=>have:=i4 h4 q;rw[zhA]at this;exact this
   | d5 q=>have:=i5 h5 q;rw[zhA]at this;exact this
   | d6 q=>have:=i6 h6 q;rw[zhA]at this;exact this
   | d7 q=>have:=i7 h7 q;rw[zhA]at this;exact this
  | n v' d0 d1 d2 d3 d4 d5 d6 d7=>
   have h:and (leV S μ N v v') (and (leT S μ N c0 d0) (and (leT S μ N c1 d1) (and (leT S μ N c2 d2) (and (leT S μ N c3 d3) (and (leT S μ N c4 d4) (and (leT S μ N c5 d5) (and (leT S μ N c6 d6) (leT S μ N c7 d7))))))))=true:=h
   simp only[Bool.and_eq_true]at h
   obtain⟨hv,h0,h1,h2,h3,h4,h5,h6,h7⟩:=h
   cases q with
   | z=>exact hv
   | d0 q=>exact i0 h0 q
   | d1 q=>exact i1 h1 q
   | d2 q=>exact i2 h2 q
   | d3 q=>exact i3 h3 q
   | d4 q=>exact i4 h4 q
   | d5 q=>exact i5 h5 q
   | d6 q=>exact i6 h6 q
   | d7 q=>exact i7 h7 q
theorem zut(hD:Def S γ)(hR:Ren μ γ γ')(hB:Bak μ N γ γ'){p x:BV}(h:leV S μ N p x=true){v:Value}(hx:zf γ' x v):zf γ p v:=by
 unfold leV at h
 split at h
 .rename_i hu
  cases p <;> first|exact .u v|cases hu
 .rw [Bool.and_eq_true]at h
  exact zDU hD hR hB h.1 (by rw[zdZ h.2];exact hx)
def leO(S:zd)(μ:Mu)(N:Nat):Ob->Ob->Bool
 | .x,_=>true
 | .c e n t,.c e' n' t'=>and (Nat.beq e e') (and (Nat.beq n n') (leT S μ N t t'))
 | .bs e fz n c,.bs e' fz' n' c'=>and (Nat.beq e e') (and (Nat.beq fz fz') (and (Nat.beq n n') (Nat.beq c c')))
 | .br e fz l,.br e' fz' l'=>and (okR S l) (and (Nat.beq e e') (and (Nat.beq fz fz') (zlI (zoa μ l) l')))
 | .br e fz l,.bs e' fz' n c=>and (okR S l) (and (Nat.beq e e') (and (Nat.beq fz fz') (zlI (zoa μ l) (zjb n c []))))
 | _,_=>false
theorem zBQ(hD:Def S γ)(hR:Ren μ γ γ')(hB:Bak μ N γ γ'){p o:Ob}(h:leO S μ N p o=true){i:Nat}(hi:i<N)(ho:OM γ' w (μ.o i) o):OM γ w i p:=by
 cases p with
 | x=>trivial
 | c e n t=>
  cases o <;> (try (cases h;done))
  rename_i e' n' t'
  have h:and (Nat.beq e e') (and (Nat.beq n n') (leT S μ N t t'))=true:=h
  rw[Bool.and_eq_true,Bool.and_eq_true]at h
  obtain⟨g',vs,h1,h2,h3,h4,h5⟩:=ho
  obtain⟨g,k1,k2,k3,k4,_⟩:=hB i g' hi h1
  rw[Nat.eq_of_beq_eq_true h.1,Nat.eq_of_beq_eq_true h.2.1]
  refine⟨g,vs,k1,by rw[<-k2];exact h2,h3,by rw[<-k3,<-k4];exact h4,fun j hj=>⟨zut hD hR hB (zqx h.2.2 (pa j)) (h5 j hj).1,(h5 j hj).2⟩⟩
 | bs e fz n c=>
  cases o <;> (try (cases h;done))
  rename_i e' fz' n' c'
  have h:and (Nat.beq e e') (and (Nat.beq fz fz') (and (Nat.beq n n') (Nat.beq c c')))=true:=h
  rw[Bool.and_eq_true,Bool.and_eq_true,Bool.and_eq_true]at h
  obtain⟨g',vs,m,h1,h2,h3,h4,h5⟩:=ho
  obtain⟨g,k1,k2,k3,k4,_⟩:=hB i g' hi h1
  rw[Nat.eq_of_beq_eq_true h.1,Nat.eq_of_beq_eq_true h.2.1,Nat.eq_of_beq_eq_true h.2.2.1,Nat.eq_of_beq_eq_true h.2.2.2]
  exact⟨g,vs,m,k1,by rw[<-k2];exact h2,by rw[<-k3];exact h3,by rw[<-k4];exact h4,h5⟩
 | br e fz l=>
  cases o <;> (try (cases h;done))
  case br e' fz' l'=>
   have h:and (okR S l) (and (Nat.beq e e') (and (Nat.beq fz fz') (zlI (zoa μ l) l')))=true:=h
   rw[Bool.and_eq_true,Bool.and_eq_true,Bool.and_eq_true]at h
   obtain⟨g',vs,m,t,h1,h2,h3,h4,h5,h6⟩:=ho
   obtain⟨g,k1,k2,k3,k4,_⟩:=hB i g' hi h1
   obtain⟨t',ht'⟩:=zhj hD h.1
   have hu:=zkw hR ht'
   rw[zcJ h.2.2.2]at hu
   rw[h5.det hu]at h6
   rw[Nat.eq_of_beq_eq_true h.2.1,Nat.eq_of_beq_eq_true h.2.2.1]
   exact⟨g,vs,m,t',k1,by rw[<-k2];exact h2,by rw[<-k3];exact h3,by rw[<-k4];exact h4,ht',h6⟩
  case bs e' fz' n c=>
   have h:and (okR S l) (and (Nat.beq e e') (and (Nat.beq fz fz') (zlI (zoa μ l) (zjb n c []))))=true:=h
   rw[Bool.and_eq_true,Bool.and_eq_true,Bool.and_eq_true]at h
   obtain⟨g',vs,m,h1,h2,h3,h4,h5,h6,h7⟩:=ho
   obtain⟨g,k1,k2,k3,k4,_⟩:=hB i g' hi h1
   obtain⟨t',ht'⟩:=zhj hD h.1
   have hu:=zkw hR ht'
   rw[zcJ h.2.2.2]at hu
   rw[Nat.eq_of_beq_eq_true h.2.1,Nat.eq_of_beq_eq_true h.2.2.1]
   have ht:t'=dec n c:=by
    unfold zjb at hu
    split at hu
    .rw [hu.nil_inv];rfl
    .obtain ⟨_,u,rfl,h8⟩:=hu.k_inv
     rw[h8.nil_inv,List.append_nil]
   subst ht
   refine⟨g,vs,m,_,k1,by rw[<-k2];exact h2,by rw[<-k3];exact h3,by rw[<-k4];exact h4,ht',by rw[zi];exact h5,by rw[zi];exact h6,fun j b hb=>?_⟩
   have hj:j<n:=by
    rcases Nat.lt_or_ge j n with h|h
    .exact h
    .rw [List.getElem?_eq_none (by rw[zi];exact h)]at hb;cases hb
   rw[yx _ _ _ hj]at hb
   cases hb
   rw[h7 j hj,zn0]
 | mp l=>cases o <;> cases h
 | lp fn σ ps asg body d st pe=>cases o <;> cases h
 | df=>cases o <;> cases h
 | it n c=>cases o <;> cases h
end
end Go.Bm
/-! Runs whose texts and objects are called anew;loops over a text's bytes. -/
namespace Go.Bm
open Go Go.RowKit
noncomputable section
variable {S:zd}{γ γ' γ1:Nat->Option G}{C:Ctx}{h h':Hp}{w w':World}{μ:Mu}{N:Nat}
def lkT(i:Nat):List (Nat×List Ck)->Option (List Ck)
 | []=>none
 | x::l=>match Nat.beq i x.1 with|true=>some x.2|false=>lkT i l
def lkN(i:Nat):List (Nat×Nat)->Nat
 | []=>i
 | x::l=>match Nat.beq i x.1 with|true=>x.2|false=>lkN i l
def mk(ts:List (Nat×List Ck))(os:List (Nat×Nat)):Mu:=⟨fun i=>match lkT i ts with|some l=>l|none=>[.q (lkN i os)],fun i=>lkN i os⟩
def zBK:List Nat->Bool
 | []=>true
 | x::l=>and (not (zaN x l)) (zBK l)
def ids(μ:Mu):List (Nat×Ob)->List Nat
 | []=>[]
 | x::l=>μ.o x.1::ids μ l
def leL(S:zd)(μ:Mu)(N:Nat)(h:Hp):List (Nat×Ob)->Bool
 | []=>true
 | x::l=>and (and (Nat.blt x.1 N) (leO S μ N x.2 (h.get (μ.o x.1)))) (leL S μ N h l)
theorem zyI{l:List (Nat×Ob)}(hl:leL S μ N h l=true){i:Nat}{o:Ob}(hm:(i,o) ∈ l):i<N/\leO S μ N o (h.get (μ.o i))=true:=by
 induction l with
 | nil=>cases hm
 | cons x l ih=>
  unfold leL at hl
  rw[Bool.and_eq_true,Bool.and_eq_true]at hl
  rcases List.mem_cons.1 hm with rfl|hm
  .exact ⟨zS hl.1.1,hl.1.2⟩
  .exact ih hl.2 hm
theorem ziz{x:Nat}:∀ {l:List Nat},zaN x l=false->x ∉ l
 | [],_,h=>by cases h
 | y::l,hm,h=>by
  unfold zaN at hm
  rw[Bool.or_eq_false_iff]at hm
  rcases List.mem_cons.1 h with rfl|h
  .rw [Nat.beq_refl]at hm;cases hm.1
  .exact ziz hm.2 h
theorem zoI{i:Nat}{o:Ob}:∀ {l:List (Nat×Ob)},(i,o) ∈ l->μ.o i ∈ ids μ l
 | x::l,h=>by
  rcases List.mem_cons.1 h with rfl|h
  .exact List.mem_cons_self
  .exact List.mem_cons_of_mem _ (zoI h)
theorem zuA:∀ {l:List (Nat×Ob)},zBK (ids μ l)=true->∀ {i j:Nat} {o p:Ob},(i,o) ∈ l->(j,p) ∈ l->μ.o i=μ.o j->i=j
 | x::l,hn,i,j,o,p,hi,hj,he=>by
  have hn:and (not (zaN (μ.o x.1) (ids μ l))) (zBK (ids μ l))=true:=hn
  rw[Bool.and_eq_true]at hn
  have hx:zaN (μ.o x.1) (ids μ l)=false:=by have:=hn.1;simpa using this
  rcases List.mem_cons.1 hi with ei|hi2
  .rcases List.mem_cons.1 hj with ej|hj2
   .rw [<-ei]at ej;injection ej with e1 e2;exact e1.symm
   .rw [<-ei]at hx
    have:=zoI (μ:=μ) hj2
    rw[<-he]at this
    exact absurd this (ziz hx)
  .rcases List.mem_cons.1 hj with ej|hj2
   .rw [<-ej]at hx
    have:=zoI (μ:=μ) hi2
    rw[he]at this
    exact absurd this (ziz hx)
   .exact zuA hn.2 hi2 hj2 he
def zBD(S:zd)(n0 N:Nat):List (Nat×Nat)->Bool
 | []=>true
 | x::l=>and (and (Nat.ble n0 x.1) (match S.bd x.1 with|some _=>false|none=>true)) (zBD S n0 N l)
theorem ziq{n0:Nat}:∀ {l:List (Nat×Nat)},zBD S n0 N l=true->(∀ i,i<n0->lkN i l=i)/\∀ i,(S.bd i).isSome=true->lkN i l=i
 | [],_=>⟨fun _ _=>rfl,fun _ _=>rfl⟩
 | x::l,h=>by
  unfold zBD at h
  rw[Bool.and_eq_true,Bool.and_eq_true]at h
  obtain⟨h1,h2⟩:=ziq h.2
  refine⟨fun i hi=>?_,fun i hi=>?_⟩
  .unfold lkN
   have:=Nat.le_of_ble_eq_true h.1.1
   rw[zdI (show i≠x.1 by omega)]
   exact h1 i hi
  .unfold lkN
   have:i≠x.1:=fun e=>by
    have h3:=h.1.2
    rw[<-e]at h3
    cases hb:S.bd i with
    | none=>rw[hb]at hi;cases hi
    | some q=>rw[hb]at h3;cases h3
   rw[zdI this]
   exact h2 i hi
def zAX(S:zd)(N:Nat):List (Nat×List Ck)->Bool
 | []=>true
 | x::l=>and (and (Nat.blt x.1 N) (and (S.bd x.1).isSome (okR S x.2))) (zAX S N l)
theorem zdN:∀ {l:List (Nat×List Ck)},zAX S N l=true->∀ {i:Nat} {r:List Ck},lkT i l=some r->i<N/\(S.bd i).isSome=true/\okR S r=true
 | x::l,h,i,r,hl=>by
  unfold zAX at h
  rw[Bool.and_eq_true,Bool.and_eq_true,Bool.and_eq_true]at h
  unfold lkT at hl
  split at hl
  .rename_i hb
   cases hl
   rw[Nat.eq_of_beq_eq_true hb]
   exact⟨zS h.1.1,h.1.2.1,h.1.2.2⟩
  .exact zdN h.2 hl
def ze4:List Df->Bool
 | []=>true
 | _=>false
def leS(S:zd)(n0:Nat)(ts:List (Nat×List Ck))(os:List (Nat×Nat))(P:PS)(s:St):Bool:=
 and (and (leT S (mk ts os) P.n P.σ s.σ) (and (leL S (mk ts os) P.n s.h P.l) (zBK (ids (mk ts os) P.l)))) (and (and (zBD S n0 P.n os) (zAX S P.n ts)) (and (Nat.ble n0 P.n) (ze4 s.d)))
def Sam(S:zd)(n0:Nat)(γ γ':Nat->Option G):Prop:=∀ id,id<n0->((S.bd id).isSome=false->γ' id=γ id)/\((S.bd id).isSome=true->∀ g,γ id=some g->∃ g',γ' id=some g'/\g'.b=g.b/\g'.k=g.k/\g'.C=g.C/\g'.L=g.L)
theorem Sam.refl(S:zd)(n0:Nat)(γ:Nat->Option G):Sam S n0 γ γ:=fun _ _=>⟨fun _=>rfl,fun _ g h=>⟨g,h,rfl,rfl,rfl,rfl⟩⟩
theorem Sam.trans{n0:Nat}{a b c:Nat->Option G}(h:Sam S n0 a b)(k:Sam S n0 b c):Sam S n0 a c:=fun id hi=>⟨fun hb=>((k id hi).1 hb).trans ((h id hi).1 hb),fun hb g hg=>by
 obtain⟨g1,h1,h2,h3,h4,h5⟩:=(h id hi).2 hb g hg
 obtain⟨g2,k1,k2,k3,k4,k5⟩:=(k id hi).2 hb g1 h1
 exact⟨g2,k1,k2.trans h2,k3.trans h3,k4.trans h4,k5.trans h5⟩⟩
theorem Sam.ext{n0 n:Nat}{a b:Nat->Option G}(h:Ext n a b)(hn:n0<=n):Sam S n0 a b:=fun id hi=>by
 have:=h id (by omega)
 exact⟨fun _=>this,fun _ g hg=>⟨g,by rw[this];exact hg,rfl,rfl,rfl,rfl⟩⟩
theorem Sam.reT{n0:Nat}{I:In}:Sam S n0 γ (Bm.reT S I γ):=fun id _=>⟨fun hb=>by
 cases hg:γ id with
 | none=>exact zua hg
 | some g=>rw[zeU hg,if_neg (by rw[hb];simp)],fun hb g hg=>⟨_,zeU hg,by rw[if_pos hb];exact⟨rfl,rfl,rfl,rfl⟩⟩⟩
theorem zuI{n0:Nat}{I I':In}{ts:List (Nat×List Ck)}{os:List (Nat×Nat)}{P:PS}{s:St}{a:Act}(hl:leS S n0 ts os P s=true)(hB:BdI S I)(hB':BdI S I')(hN:∀ q,(S.bd q).isSome=true->q<P.n)(hm:∀ q,(S.bd q).isSome=true->I' q=tx I ((mk ts os).t q))
 (r:Rel (cx C S I) γ s.h w) (hs:yF γ s.σ a.tmps):∃ γ1,Sam S n0 γ γ1/\Rel (cx C S I') γ1 P.st.h w/\yF γ1 P.st.σ a.tmps/\n0<=P.st.h.nx/\s.d=[]:=by
 unfold leS at hl
 simp only[Bool.and_eq_true]at hl
 obtain⟨⟨l1,l2,l3⟩,⟨l4,l5⟩,l6,l7⟩:=hl
 have l6:=Nat.le_of_ble_eq_true l6
 obtain⟨o1,o2⟩:=ziq l4
 have hd:s.d=[]:=by cases hx:s.d with
  | nil=>rfl
  | cons=>rw[hx]at l7;cases l7
 have hsy:∀ q,(S.bd q).isSome=true->∃ g,γ q=some g/\g.T=I q:=fun q hq=>zkV r hq
 let γ1:Nat->Option G:=fun i=>if i<P.n then(match γ (lkN i os)with|some g=>some (if(S.bd i).isSome=true then { g with T:=I' i } else g)|none=>none) else none
 have g1s:∀ {i:Nat} {g:G},i<P.n->γ (lkN i os)=some g->γ1 i=some (if(S.bd i).isSome=true then { g with T:=I' i } else g):=fun {i g} hi hg=>by
  show(if i<P.n then _ else none)=_
  rw[if_pos hi,hg]
 have g1i:∀ {i:Nat} {g':G},γ1 i=some g'->i<P.n/\∃ g,γ (lkN i os)=some g/\g'=if(S.bd i).isSome=true then { g with T:=I' i } else g:=fun {i g'} hg=>by
  have hg:(if i<P.n then(match γ (lkN i os)with|some g=>some (if(S.bd i).isSome=true then { g with T:=I' i } else g)|none=>none) else none)=some g':=hg
  split at hg
  .rename_i hi
   split at hg
   .rename_i g hgg;cases hg;exact⟨hi,g,hgg,rfl⟩
   .cases hg
  .cases hg
 have fld:∀ (i:Nat) (g:G),(if(S.bd i).isSome=true then { g with T:=I' i } else g).b=g.b/\(if(S.bd i).isSome=true then { g with T:=I' i } else g).k=g.k/\(if(S.bd i).isSome=true then { g with T:=I' i } else g).C=g.C/\(if(S.bd i).isSome=true then { g with T:=I' i } else g).L=g.L:=fun i g=>by split <;> exact⟨rfl,rfl,rfl,rfl⟩
 have okt:∀ q,(S.bd q).isSome=true->okR S ((mk ts os).t q)=true:=fun q hq=>by
  show okR S (match lkT q ts with|some l=>l|none=>[.q (lkN q os)])=true
  split
  .rename_i l hl';exact(zdN l5 hl').2.2
  .rw [o2 q hq];unfold okR;rw[hq];rfl
 have hR:Ren (mk ts os) γ1 γ:=by
  refine⟨fun i g hg=>?_,fun i g hg=>?_⟩
  .obtain ⟨hi,g0,h0,rfl⟩:=g1i hg
   cases hb:(S.bd i).isSome with
   | true=>
    rw[if_pos rfl]
    show zG γ _ (I' i)
    rw[hm i hb];exact zn1 hsy (okt i hb)
   | false=>
    rw[if_neg (by simp)]
    have:(mk ts os).t i=[.q (lkN i os)]:=by
     show(match lkT i ts with|some l=>l|none=>[.q (lkN i os)])=_
     split
     .rename_i l hl'
      have:=(zdN l5 hl').2.1
      rw[hb]at this;cases this
     .rfl
    rw[this]
    have:=zG.q (γ:=γ) (lkN i os) g0 h0 zG.nil
    rwa [List.append_nil]at this
  .obtain ⟨hi,g0,h0,rfl⟩:=g1i hg
   obtain⟨f1,f2,f3,f4⟩:=fld i g0
   exact⟨g0,h0,f1.symm,f2.symm,f3.symm,f4.symm⟩
 have hBk:Bak (mk ts os) P.n γ1 γ:=fun i g' hi hg=>by
  obtain⟨f1,f2,f3,f4⟩:=fld i g'
  exact⟨_,g1s hi hg,f1.symm,f2.symm,f3.symm,f4.symm⟩
 have hsy1:∀ q,(S.bd q).isSome=true->∃ g,γ1 q=some g/\g.T=I' q:=fun q hq=>by
  obtain⟨g,h1,_⟩:=hsy q hq
  have:=g1s (hN q hq) (by rw[o2 q hq];exact h1)
  exact⟨_,this,by rw[if_pos hq]⟩
 have hD:Def S γ1:=fun q x y hq=>by
  obtain⟨g,h1,h2⟩:=hsy1 q (by rw[hq];rfl)
  exact⟨g,h1,by rw[h2];exact hB'.bd q x y hq⟩
 have live:∀ i,P.st.h.get i≠.x->(i,lkO i P.l) ∈ P.l/\i<P.n/\leO S (mk ts os) P.n (lkO i P.l) (s.h.get (lkN i os))=true/\s.h.get (lkN i os)≠.x:=fun i hi=>by
  have e:P.st.h.get i=lkO i P.l:=zc0 P.n i P.l
  rw[e]at hi
  have hm:=zuq hi
  obtain⟨k1,k2⟩:=zyI l2 hm
  refine⟨hm,k1,k2,fun hx=>?_⟩
  have k2:leO S (mk ts os) P.n (lkO i P.l) (s.h.get (lkN i os))=true:=k2
  rw[hx]at k2
  cases ho:lkO i P.l <;> rw[ho]at k2 hi <;> first|exact hi rfl|cases k2
 refine⟨γ1,fun id hi=>⟨fun hb=>?_,fun hb g hg=>?_⟩,⟨fun i=>?_,fun i j g1 g2 hi hj h1 h2 hb=>?_,fun i g hi hg=>?_,fun i hi=>?_,r.fr,r.os,r.tape,r.output,r.up,fun q t hq=>?_⟩,fun t=>?_,l6,hd⟩
 .show (if id<P.n then _ else none)=_
  rw[if_pos (by omega),o1 id hi]
  cases hg:γ id with
  | none=>rfl
  | some g=>dsimp only;rw[if_neg (by rw[hb];simp)]
 .have:=g1s (i:=id) (g:=g) (by omega) (by rw[o1 id hi];exact hg)
  exact⟨_,this,fld id g⟩
 .have e:P.st.h.get i=lkO i P.l:=zc0 P.n i P.l
  by_cases hx:P.st.h.get i=.x
  .rw [hx];trivial
  .obtain ⟨k1,k2,k3,k4⟩:=live i hx
   rw[e]
   exact zBQ hD hR hBk k3 k2 (r.ob (lkN i os))
 .obtain ⟨i1,i2,i3,i4⟩:=live i hi
  obtain⟨j1,j2,j3,j4⟩:=live j hj
  obtain⟨_,k1,e1,rfl⟩:=g1i h1
  obtain⟨_,k2,e2,rfl⟩:=g1i h2
  rw[(fld i k1).1,(fld j k2).1]at hb
  have:=r.sep _ _ k1 k2 i4 j4 e1 e2 hb
  exact zuA l3 i1 j1 this
 .obtain ⟨i1,i2,i3,i4⟩:=live i hi
  obtain⟨_,k1,e1,rfl⟩:=g1i hg
  rw[(fld i k1).1]
  exact r.lo _ k1 i4 e1
 .show (if i<P.n then _ else none)=_
  have hi:P.n<=i:=hi
  rw[if_neg (by omega)]
 .obtain ⟨h1,h2⟩:=zn8 hq
  obtain⟨g,h3,h4⟩:=hsy1 q h1
  exact⟨g,h3,by rw[h4,h2]⟩
 .exact zut hD hR hBk (zqx l1 (pa t)) (hs t)
def zE(S:zd)(n0 nt:Nat)(I:In)(c:AC)(s:St)(e:Ex)(I':In)(s':St):Prop:=∀ (C:Ctx) (γ:Nat->Option G) (a:Act) (w:World) (rd:Option Nat),
 okC nt rd.isSome c=true->nt<=a.tmps.size->TbOk S C->BdI S I->n0<=s.h.nx->s.d=[]->a.defers=[]->Rel (cx C S I) γ s.h w->yF γ s.σ a.tmps->
 c.code.wpIn (FW rd) 0 S.P (fun x a' w'=>x=zeO e/\∃ γ',Sam S n0 γ γ'/\BdI S I'/\n0<=s'.h.nx/\s'.d=[]/\a'.defers=[]/\Rel (cx C S I') γ' s'.h w'/\yF γ' s'.σ a'.tmps/\a'.tmps.size=a.tmps.size) a w
variable {n0 nt:Nat}{I I' I1 I2:In}{c c1 c2:AC}{s s' s1 s2:St}{e:Ex}
theorem zE.of(h:zaB S nt c s e s')(hd:s'.d=[]):zE S n0 nt I c s e I s':=by
 intro C γ a w rd hok hnt hT hB hn hd0 hda r hs
 refine wpIn_mono (h (cx C S I) γ a w rd hok hnt (gtOk hT hB) r hs (by rw[hd0,hda];exact .nil)) fun x a' w' ⟨hx,γ',o1,o2,o3,o4,o5,o6⟩=>?_
 rw[hd]at o5
 refine⟨hx,γ',Sam.ext o1 hn,hB,Nat.le_trans hn o2,hd,?_,o3,o4,o6⟩
 generalize a'.defers=q at o5
 cases o5;rfl
theorem zE.seq(h1:zE S n0 nt I c1 s .n I1 s1)(h2:zE S n0 nt I1 c2 s1 e I2 s2):zE S n0 nt I (.seq c1 c2) s e I2 s2:=by
 intro C γ a w rd hok hnt hT hB hn hd0 hda r hs
 have hok:and (okC nt rd.isSome c1) (okC nt rd.isSome c2)=true:=by simpa[okC]using hok
 rw[Bool.and_eq_true]at hok
 refine wpIn_seq ?_
 refine wpIn_mono (h1 C γ a w rd hok.1 hnt hT hB hn hd0 hda r hs) fun x a1 w1 ⟨hx,γ1,o1,o2,o3,o4,o5,o6,o7,o8⟩=>?_
 subst hx
 exact wpIn_mono (h2 C γ1 a1 w1 rd hok.2 (by rw[o8];exact hnt) hT o2 o3 o4 o5 o6 o7) fun x a2 w2 ⟨hx,γ2,p1,p2,p3,p4,p5,p6,p7,p8⟩=>⟨hx,γ2,o1.trans p1,p2,p3,p4,p5,p6,p7,by rw[p8,o8]⟩
theorem zE.block{i:Nat}(h:zE S n0 nt I c s (.x i) I' s'):zE S n0 nt I (.block i c) s .n I' s':=by
 intro C γ a w rd hok hnt hT hB hn hd0 hda r hs
 have hok:okC nt rd.isSome c=true:=by simpa[okC]using hok
 refine wpIn_block ?_
 refine wpIn_mono (h C γ a w rd hok hnt hT hB hn hd0 hda r hs) fun x a1 w1 ⟨hx,ho⟩=>?_
 subst hx
 show Exit.inBlock i _ (.exit i) a1 w1
 simp only[Exit.inBlock,if_true]
 exact⟨rfl,ho⟩
theorem zE.blockR{i:Nat}(h:zE S n0 nt I c s .r I' s'):zE S n0 nt I (.block i c) s .r I' s':=by
 intro C γ a w rd hok hnt hT hB hn hd0 hda r hs
 have hok:okC nt rd.isSome c=true:=by simpa[okC]using hok
 refine wpIn_block ?_
 refine wpIn_mono (h C γ a w rd hok hnt hT hB hn hd0 hda r hs) fun x a1 w1 ⟨hx,ho⟩=>?_
 subst hx
 exact⟨rfl,ho⟩
theorem zE.scope(h:zE S n0 nt I c s e I' s'):zE S n0 nt I (.scope c) s e I' s':=by
 intro C γ a w rd hok hnt hT hB hn hd0 hda r hs
 have hok:okC nt rd.isSome c=true:=by simpa[okC]using hok
 refine zaa (wpIn_mono (h C γ a w rd hok hnt hT hB hn hd0 hda r hs) fun x a' w' ⟨hx,ho⟩=>?_)
 subst hx
 cases e <;> exact⟨rfl,ho⟩
theorem zE.fold{ts:List (Nat×List Ck)}{os:List (Nat×Nat)}{P:PS}(hl:leS S n0 ts os P s=true)(hN:∀ q,(S.bd q).isSome=true->q<P.n)(hB':BdI S I->BdI S I1)(hm:BdI S I->∀ q,(S.bd q).isSome=true->I1 q=tx I ((mk ts os).t q))(h:zE S n0 nt I1 c P.st e I' s'):zE S n0 nt I c s e I' s':=by
 intro C γ a w rd hok hnt hT hB hn hd0 hda r hs
 obtain⟨γ1,f1,f2,f3,f4,f5⟩:=zuI (I':=I1) hl hB (hB' hB) hN (hm hB) r hs
 exact wpIn_mono (h C γ1 a w rd hok hnt hT (hB' hB) f4 rfl hda f2 f3) fun x a' w' ⟨hx,γ',o1,o2⟩=>⟨hx,γ',f1.trans o1,o2⟩
theorem zE.post{ts:List (Nat×List Ck)}{os:List (Nat×Nat)}{P:PS}(h:zE S n0 nt I c s e I1 s1)(hl:leS S n0 ts os P s1=true)(hN:∀ q,(S.bd q).isSome=true->q<P.n)(hB':BdI S I1->BdI S I')(hm:BdI S I1->∀ q,(S.bd q).isSome=true->I' q=tx I1 ((mk ts os).t q)):zE S n0 nt I c s e I' P.st:=by
 intro C γ a w rd hok hnt hT hB hn hd0 hda r hs
 refine wpIn_mono (h C γ a w rd hok hnt hT hB hn hd0 hda r hs) fun x a' w' ⟨hx,γ',o1,o2,o3,o4,o5,o6,o7,o8⟩=>?_
 obtain⟨γ1,f1,f2,f3,f4,f5⟩:=zuI (I':=I') hl o2 (hB' o2) hN (hm o2) o6 o7
 exact⟨hx,γ1,o1.trans f1,hB' o2,f4,rfl,o5,f2,f3,o8⟩
theorem zE.unfold{P:PS}(ho:∀ i,μ.o i=i)(hm:BdI S I->∀ q,(S.bd q).isSome=true->okR S (μ.t q)=true/\I q=tx I1 (μ.t q))(hm0:∀ q,(S.bd q).isSome=false->μ.t q=[.q q])(hB':BdI S I->BdI S I1)(h:zE S n0 nt I1 c (sbP μ P).st e I' s'):zE S n0 nt I c P.st e I' s':=by
 intro C γ a w rd hok hnt hT hB hn hd0 hda r hs
 obtain⟨u1,u2⟩:=zmL (I':=I1) hB r hs ho (hm hB) hm0
 exact wpIn_mono (h C _ a w rd hok hnt hT (hB' hB) hn rfl hda u1 u2) fun x a' w' ⟨hx,γ',o1,o2⟩=>⟨hx,γ',Sam.reT.trans o1,o2⟩
def zd.off(S:zd)(L:List Nat):zd:={ S with sy:=fun q=>match zaN q L with|true=>none|false=>S.sy q }
theorem zEg{L:List Nat}{q:Nat}{t:List UInt8}(h:(S.off L).sy q=some t):S.sy q=some t/\zaN q L=false:=by
 have h:(match zaN q L with|true=>none|false=>S.sy q)=some t:=h
 split at h
 .cases h
 .rename_i hb;exact⟨h,hb⟩
theorem BdI.off{L:List Nat}(h:BdI S I):BdI (S.off L) I:=⟨h.bd,fun q t hq=>h.sy q t (zEg hq).1⟩
theorem zE.ok{L:List Nat}(hsb:∀ q t,S.sy q=some t->(S.bd q).isSome=true)(h:∀ I,BdI S I->zE (S.off L) s.h.nx nt I c s e I s')(hd:s.d=[]):zaB S nt c s e s':=by
 intro C γ a w rd hok hnt hG r hs hdr
 have hda:a.defers=[]:=by
  rw[hd]at hdr
  generalize a.defers=q at hdr
  cases hdr;rfl
 have hI:∀ q x y,S.bd q=some (x,y)->∃ t,C.sy q=some t/\(C.sy q).getD []=t/\x<=t.length/\t.length<=y:=fun q x y hq=>by
  obtain⟨t,h1,h2,h3⟩:=hG.bd q x y hq
  exact⟨t,h1,by rw[h1];rfl,h2,h3⟩
 have hsyb:∀ q t,syI S (fun q=>(C.sy q).getD []) q=some t->C.sy q=some t:=fun q t hq=>by
  obtain⟨h1,h2⟩:=zn8 hq
  obtain⟨p,hp⟩:=Option.isSome_iff_exists.1 h1
  obtain⟨t',k1,k2,_⟩:=hI q p.1 p.2 hp
  rw[<-h2,k2];exact k1
 have hB:BdI S (fun q=>(C.sy q).getD []):=⟨fun q x y hq=>by
  obtain⟨t,k1,k2,k3⟩:=hI q x y hq
  rw[k2];exact k3,fun q t hq=>⟨hsb q t hq,by rw[hG.sy q t hq];rfl⟩⟩
 have r':Rel (cx C (S.off L) fun q=>(C.sy q).getD []) γ s.h w:=⟨r.ob,r.sep,r.lo,r.us,r.fr,r.os,r.tape,r.output,r.up,fun q t hq=>r.sy q t (hsyb q t hq)⟩
 refine wpIn_mono (h _ hB C γ a w rd hok hnt ⟨hG.gt⟩ hB.off (Nat.le_refl _) hd hda r' hs) fun x a' w' ⟨hx,γ',o1,o2,o3,o4,o5,o6,o7,o8⟩=>?_
 have ext:Ext s.h.nx γ γ':=fun id hi=>by
  cases hb:(S.bd id).isSome with
  | false=>exact(o1 id hi).1 hb
  | true=>
   obtain⟨g,h1,h2⟩:=zkV r' (show((S.off L).bd id).isSome=true from hb)
   obtain⟨g',k1,k2,k3,k4,k5⟩:=(o1 id hi).2 hb g h1
   obtain⟨g2,l1,l2⟩:=zkV o6 (show((S.off L).bd id).isSome=true from hb)
   rw[k1]at l1;cases l1
   rw[k1,h1]
   congr 1
   have e:g'.T=g.T:=by rw[l2,h2]
   cases g;cases g'
   dsimp only at k2 k3 k4 k5 e
   subst k2 k3 k4 k5 e
   rfl
 refine⟨hx,γ',ext,o3,⟨o6.ob,o6.sep,o6.lo,o6.us,o6.fr,o6.os,o6.tape,o6.output,o6.up,fun q t hq=>?_⟩,o7,by rw[o4,o5];exact .nil,o8⟩
 obtain⟨g,h1,h2⟩:=r.sy q t hq
 have hlt:q<s.h.nx:=by
  rcases Nat.lt_or_ge q s.h.nx with hl|hl
  .exact hl
  .rw [r.us q hl]at h1;cases h1
 exact⟨g,by rw[ext q hlt];exact h1,h2⟩
end
end Go.Bm
/-! Loops over a text's bytes. -/
namespace Go.Bm
open Go Go.RowKit
noncomputable section
variable {S:zd}{γ γ' γ1:Nat->Option G}{C:Ctx}{h h':Hp}{w w':World}{μ:Mu}{N:Nat}
variable {n0 nt:Nat}{I I' I1 I2:In}{c c1 c2:AC}{s s' s1 s2:St}{e:Ex}
def up(I:In)(q:Nat)(t:List UInt8):In:=fun i=>if i=q then t else I i
theorem zfB(I:In)(q:Nat)(t:List UInt8):up I q t q=t:=by unfold up;rw[if_pos rfl]
theorem zeE{I:In}{q i:Nat}{t:List UInt8}(h:i≠q):up I q t i=I i:=by unfold up;rw[if_neg h]
theorem zev(x:UInt8):dec 1 x.toNat=[x]:=by
 have h:=x.toNat_lt
 have e:zn x.toNat 0=x.toNat:=by rw[zK,Nat.pow_zero,Nat.div_one];omega
 show(List.range 1).map _=_
 simp[List.range_one,e]
theorem zgd(I:In)(q:Nat):tx I [.q q]=I q:=by show I q++[]=_;rw[List.append_nil]
theorem zej(ts:List (Nat×List Ck))(os:List (Nat×Nat))(i:Nat):(mk ts os).t i=match lkT i ts with|some l=>l|none=>[.q (lkN i os)]:=rfl
theorem zu(i q:Nat)(l:List Ck)(r:List (Nat×List Ck)):lkT i ((q,l)::r)=if i=q then some l else lkT i r:=by
 show(match Nat.beq i q with|true=>some l|false=>lkT i r)=_
 by_cases hi:i=q
 .rw [if_pos hi,hi,Nat.beq_refl]
 .rw [if_neg hi,zdI hi]
theorem zar(i:Nat):lkT i []=none:=rfl
structure yj(S:zd)(a r o M Mo:Nat)(f:Nat->List Ck)(g:UInt8->List UInt8):Prop where
 sa:S.sy a=none
 sr:S.sy r=none
 so:S.sy o=none
 ba:S.bd a=some (0,M)
 br:S.bd r=some (0,M)
 bo:S.bd o=some (0,Mo)
 ar:a≠r
 ao:a≠o
 ro:r≠o
 f:∀ (x:UInt8) (I:In),tx I (f x.toNat)=g x
def im(g:UInt8->List UInt8)(t:List UInt8):List UInt8:=t.flatMap g
def J(I:In)(a r o:Nat)(g:UInt8->List UInt8)(d t:List UInt8):In:=up (up (up I a d) r t) o (im g d)
section
variable {a r o M Mo:Nat}{f:Nat->List Ck}{g:UInt8->List UInt8}
theorem J_a(hL:yj S a r o M Mo f g)(d t:List UInt8):J I a r o g d t a=d:=by unfold J;rw[zeE hL.ao,zeE hL.ar,zfB]
theorem J_r(hL:yj S a r o M Mo f g)(d t:List UInt8):J I a r o g d t r=t:=by unfold J;rw[zeE hL.ro,zfB]
theorem J_o(d t:List UInt8):J I a r o g d t o=im g d:=by unfold J;rw[zfB]
theorem zfu{q:Nat}(h1:q≠a)(h2:q≠r)(h3:q≠o)(d t:List UInt8):J I a r o g d t q=I q:=by unfold J;rw[zeE h3,zeE h2,zeE h1]
theorem J_J(d t d' t':List UInt8):J (J I a r o g d t) a r o g d' t'=J I a r o g d' t':=by
 funext i
 unfold J up
 by_cases h3:i=o
 .simp [h3]
 .by_cases h1:i=r
  .simp [h1,h3]
  .by_cases h2:i=a
   .simp [h1,h2,h3]
   .simp [h1,h2,h3]
theorem yj.bdI(hL:yj S a r o M Mo f g)(hB:BdI S I){d t:List UInt8}(h:d.length+t.length<=M)(ho:(im g d).length<=Mo):BdI S (J I a r o g d t):=by
 refine⟨fun q x y hq=>?_,fun q t hq=>⟨(hB.sy q t hq).1,by rw[zfu (fun e=>by rw[e,hL.sa]at hq;cases hq) (fun e=>by rw[e,hL.sr]at hq;cases hq) (fun e=>by rw[e,hL.so]at hq;cases hq)];exact(hB.sy q t hq).2⟩⟩
 by_cases h3:q=o
 .subst h3;rw[hL.bo]at hq;cases hq;rw[J_o];omega
 .by_cases h1:q=r
  .subst h1;rw[hL.br]at hq;cases hq;rw[J_r hL];omega
  .by_cases h2:q=a
   .subst h2;rw[hL.ba]at hq;cases hq;rw[J_a hL];omega
   .rw [zfu h2 h1 h3];exact hB.bd q x y hq
def tsB(a o b:Nat)(f:Nat->List Ck):List (Nat×List Ck):=[(a,[.q a,.k 1 b]),(o,.q o::f b)]
def zft(S:zd)(n0 nt a r o:Nat)(f:Nat->List Ck)(c:AC)(P0 P:PS)(b:Nat):Prop:=∃ sE os,zaB S nt c (sbP (mk [(r,[.k 1 b,.q r])] []) P0).st .n sE/\sE.d=[]/\leS S n0 (tsB a o b f) os P sE=true
theorem zsE{os:List (Nat×Nat)}{ts:List (Nat×List Ck)}{P:PS}(h:leS S n0 ts os P s=true){q:Nat}(hq:(S.bd q).isSome=true):lkN q os=q:=by
 unfold leS at h
 simp only[Bool.and_eq_true]at h
 exact(ziq h.2.1.1).2 q hq
theorem okb(hL:yj S a r o M Mo f g){b:Nat}(hb:b<256):∀ q,(S.bd q).isSome=true->okR S ((mk [(r,[.k 1 b,.q r])] []).t q)=true:=fun q hq=>by
 rw[zej,zu,zar]
 by_cases e:q=r
 .rw [if_pos e]
  have h1:Nat.blt b (Nat.pow 256 1)=true:=zfj (by show b<256^1;omega)
  show and (Nat.blt b (Nat.pow 256 1)) (and (S.bd r).isSome (okR S []))=true
  rw[h1,hL.br];rfl
 .rw [if_neg e]
  show and (S.bd q).isSome (okR S [])=true
  rw[hq];rfl
theorem ok0:∀ q,(S.bd q).isSome=true->okR S ((mk [(r,[])] []).t q)=true:=fun q hq=>by
 rw[zej,zu,zar]
 by_cases e:q=r
 .rw [if_pos e];rfl
 .rw [if_neg e]
  show and (S.bd q).isSome (okR S [])=true
  rw[hq];rfl
theorem nb(hL:yj S a r o M Mo f g)(l:List Ck):∀ q,(S.bd q).isSome=false->(mk [(r,l)] []).t q=[.q q]:=fun q hq=>by
 rw[zej,zu,zar,if_neg (fun e=>by subst e;rw[hL.br]at hq;cases hq)];rfl
theorem zCJ(hL:yj S a r o M Mo f g)(d:List UInt8)(x:UInt8)(t:List UInt8)(q:Nat):J I a r o g d (x::t) q=tx (J I a r o g d t) ((mk [(r,[.k 1 x.toNat,.q r])] []).t q):=by
 rw[zej,zu,zar]
 by_cases e:q=r
 .rw [if_pos e,e,J_r hL]
  show _=dec 1 x.toNat++tx _ [.q r]
  rw[zev,zgd,J_r hL];rfl
 .rw [if_neg e]
  show _=tx _ [.q q]
  rw[zgd]
  by_cases e1:q=a
  .rw [e1,J_a hL,J_a hL]
  .by_cases e2:q=o
   .rw [e2,J_o,J_o]
   .rw [zfu e1 e e2,zfu e1 e e2]
theorem zEk(hL:yj S a r o M Mo f g)(d:List UInt8)(q:Nat):J I a r o g d [] q=tx (J I a r o g d []) ((mk [(r,[])] []).t q):=by
 rw[zej,zu,zar]
 by_cases e:q=r
 .rw [if_pos e,e,J_r hL];rfl
 .rw [if_neg e]
  show _=tx _ [.q q]
  rw[zgd]
theorem zz9(hL:yj S a r o M Mo f g){os:List (Nat×Nat)}{q:Nat}(ho:lkN q os=q)(d:List UInt8)(x:UInt8)(t:List UInt8):J I a r o g (d++[x]) t q=tx (J I a r o g d t) ((mk (tsB a o x.toNat f) os).t q):=by
 rw[zej]
 unfold tsB
 rw[zu,zu,zar]
 by_cases e1:q=a
 .rw [if_pos e1,e1,J_a hL]
  show _=J I a r o g d t a++(dec 1 x.toNat++[])
  rw[J_a hL,zev];rfl
 .rw [if_neg e1]
  by_cases e2:q=o
  .rw [if_pos e2,e2,J_o]
   show _=J I a r o g d t o++tx _ (f x.toNat)
   rw[J_o,hL.f]
   unfold im
   rw[List.flatMap_append];simp
  .rw [if_neg e2]
   show _=tx _ [.q (lkN q os)]
   rw[ho,zgd]
   by_cases e:q=r
   .rw [e,J_r hL,J_r hL]
   .rw [zfu e1 e e2,zfu e1 e e2]
theorem zhc(hL:yj S a r o M Mo f g){P0 P:PS}(hN:∀ q,(S.bd q).isSome=true->q<P.n){x:UInt8}(hstep:zft S n0 nt a r o f c P0 P x.toNat)(d t:List UInt8)(hB0:BdI S (J I a r o g d (x::t)))(hlen:d.length+(x::t).length<=M)(ho:(im g (d++[x])).length<=Mo):
 zE S n0 nt (J I a r o g d (x::t)) c P0.st .n (J I a r o g (d++[x]) t) P.st:=by
 have hlen:d.length+(t.length+1)<=M:=hlen
 have ho1:(im g d).length<=Mo:=by
  unfold im at ho ⊢
  rw[List.flatMap_append,List.length_append]at ho;omega
 have hB:∀ {d' t':List UInt8},d'.length+t'.length<=M->(im g d').length<=Mo->BdI S (J I a r o g d' t'):=fun {d' t'} h1 h2=>by
  have:=hL.bdI hB0 (d:=d') (t:=t') h1 h2
  rwa [J_J]at this
 obtain⟨sE,os,r1,r2,r3⟩:=hstep
 refine zE.unfold (μ:=mk [(r,[.k 1 x.toNat,.q r])] []) (I1:=J I a r o g d t) (fun _=>rfl) (fun _ q hq=>⟨okb hL x.toNat_lt q hq,zCJ hL d x t q⟩) (nb hL _) (fun _=>hB (by omega) ho1) ?_
 exact zE.post (zE.of r1 r2) r3 hN (fun _=>hB (by rw[List.length_append];show d.length+1+t.length<=M;omega) ho) fun _ q hq=>zz9 hL (zsE r3 hq) d x t
def ts0(a r o:Nat)(l:List Ck):List (Nat×List Ck):=[(r,l),(a,[]),(o,[])]
def zAY(a o b:Nat)(f:Nat->List Ck):List (Nat×List Ck):=[(a,[.k 1 b]),(o,f b)]
def zl9(S:zd)(n0 nt a r o:Nat)(f:Nat->List Ck)(c:AC)(P0 P:PS)(b:Nat):Prop:=∃ sE os,zaB S nt c (sbP (mk (ts0 a r o [.k 1 b,.q r]) []) P0).st .n sE/\sE.d=[]/\leS S n0 (zAY a o b f) os P sE=true
theorem zyh(hL:yj S a r o M Mo f g){l:List Ck}(hl:okR S l=true):∀ q,(S.bd q).isSome=true->okR S ((mk (ts0 a r o l) []).t q)=true:=fun q hq=>by
 rw[zej]
 unfold ts0
 rw[zu,zu,zu,zar]
 by_cases e:q=r
 .rw [if_pos e];exact hl
 .rw [if_neg e]
  by_cases e1:q=a
  .rw [if_pos e1];rfl
  .rw [if_neg e1]
   by_cases e2:q=o
   .rw [if_pos e2];rfl
   .rw [if_neg e2]
    show and (S.bd q).isSome (okR S [])=true
    rw[hq];rfl
theorem nb0(hL:yj S a r o M Mo f g)(l:List Ck):∀ q,(S.bd q).isSome=false->(mk (ts0 a r o l) []).t q=[.q q]:=fun q hq=>by
 rw[zej]
 unfold ts0
 rw[zu,zu,zu,zar,if_neg (fun e=>by subst e;rw[hL.br]at hq;cases hq),if_neg (fun e=>by subst e;rw[hL.ba]at hq;cases hq),if_neg (fun e=>by subst e;rw[hL.bo]at hq;cases hq)];rfl
theorem zyX(hL:yj S a r o M Mo f g){t t':List UInt8}{l:List Ck}(hl:t=tx (J I a r o g [] t') l)(q:Nat):J I a r o g [] t q=tx (J I a r o g [] t') ((mk (ts0 a r o l) []).t q):=by
 rw[zej]
 unfold ts0
 rw[zu,zu,zu,zar]
 by_cases e:q=r
 .rw [if_pos e,e,J_r hL];exact hl
 .rw [if_neg e]
  by_cases e1:q=a
  .rw [if_pos e1,e1,J_a hL];rfl
  .rw [if_neg e1]
   by_cases e2:q=o
   .rw [if_pos e2,e2,J_o];rfl
   .rw [if_neg e2]
    show _=tx _ [.q q]
    rw[zgd,zfu e1 e e2,zfu e1 e e2]
theorem zyd(hL:yj S a r o M Mo f g){os:List (Nat×Nat)}{q:Nat}(ho:lkN q os=q)(x:UInt8)(t:List UInt8):J I a r o g [x] t q=tx (J I a r o g [] t) ((mk (zAY a o x.toNat f) os).t q):=by
 rw[zej]
 unfold zAY
 rw[zu,zu,zar]
 by_cases e1:q=a
 .rw [if_pos e1,e1,J_a hL]
  show _=dec 1 x.toNat++[]
  rw[zev];rfl
 .rw [if_neg e1]
  by_cases e2:q=o
  .rw [if_pos e2,e2,J_o]
   show _=tx _ (f x.toNat)
   rw[hL.f]
   unfold im
   simp
  .rw [if_neg e2]
   show _=tx _ [.q (lkN q os)]
   rw[ho,zgd]
   by_cases e:q=r
   .rw [e,J_r hL,J_r hL]
   .rw [zfu e1 e e2,zfu e1 e e2]
theorem zvB(hL:yj S a r o M Mo f g){P0 P:PS}(hN:∀ q,(S.bd q).isSome=true->q<P.n){x:UInt8}(hstep:zl9 S n0 nt a r o f c P0 P x.toNat)(t:List UInt8)(hB0:BdI S (J I a r o g [] (x::t)))(hlen:(x::t).length<=M)(ho:(im g [x]).length<=Mo):
 zE S n0 nt (J I a r o g [] (x::t)) c P0.st .n (J I a r o g [x] t) P.st:=by
 have hlen:t.length+1<=M:=hlen
 have hB:∀ {d' t':List UInt8},d'.length+t'.length<=M->(im g d').length<=Mo->BdI S (J I a r o g d' t'):=fun {d' t'} h1 h2=>by
  have:=hL.bdI hB0 (d:=d') (t:=t') h1 h2
  rwa [J_J]at this
 obtain⟨sE,os,r1,r2,r3⟩:=hstep
 have okr:okR S [.k 1 x.toNat,.q r]=true:=by
  have h1:Nat.blt x.toNat (Nat.pow 256 1)=true:=zfj (by have:=x.toNat_lt;show x.toNat<256^1;omega)
  show and (Nat.blt x.toNat (Nat.pow 256 1)) (and (S.bd r).isSome (okR S []))=true
  rw[h1,hL.br];rfl
 refine zE.unfold (μ:=mk (ts0 a r o [.k 1 x.toNat,.q r]) []) (I1:=J I a r o g [] t) (fun _=>rfl) (fun _ q hq=>⟨zyh hL okr q hq,zyX hL ?_ q⟩) (nb0 hL _) (fun _=>hB (by show 0+t.length<=M;omega) (Nat.zero_le _)) ?_
 .show x::t=dec 1 x.toNat++(J I a r o g [] t r++[])
  rw[zev,J_r hL,List.append_nil];rfl
 .exact zE.post (zE.of r1 r2) r3 hN (fun _=>hB (by show 1+t.length<=M;omega) ho) fun _ q hq=>zyd hL (zsE r3 hq) x t
theorem zqE{d t all:List UInt8}(h:d++t=all)(hM:(im g all).length<=Mo):(im g d).length<=Mo:=by
 subst h
 unfold im at hM ⊢
 rw[List.flatMap_append,List.length_append]at hM;omega
theorem zvA(hL:yj S a r o M Mo f g){P0 P:PS}(hN:∀ q,(S.bd q).isSome=true->q<P.n){K:List Nat}(hstep0:∀ b ∈ K,zl9 S n0 nt a r o f c P0 P b)(hstep:∀ b ∈ K,zft S n0 nt a r o f c P P b){F:St}(he:zeO e≠.normal){IF:In}
 {all tl:List UInt8} (hall:∀ x ∈ all,x.toNat ∈ K) (hM:(all++tl).length<=M) (hMo:(im g all).length<=Mo) (I:In) (hend0:all=[]->zE S n0 nt (J I a r o g all tl) c P0.st e IF F) (hend:zE S n0 nt (J I a r o g all tl) c P.st e IF F):zE S n0 nt (J I a r o g [] (all++tl)) (.loop c) P0.st e IF F:=by
 intro C γ ac w rd hok hnt hT hB hn hd0 hda rl hs
 have hok:okC nt rd.isSome c=true:=by simpa[okC]using hok
 refine zbu (fun m a' w'=>∃ d t γ' X,t.length=m/\d++t=all/\(X=P\/(X=P0/\d=[]))/\Sam S n0 γ γ'/\a'.defers=[]/\n0<=X.st.h.nx/\Rel (cx C S (J I a r o g d (t++tl))) γ' X.st.h w'/\yF γ' X.st.σ a'.tmps/\a'.tmps.size=ac.tmps.size) ?_ all.length
  ⟨[],all,γ,P0,rfl,rfl,.inr ⟨rfl,rfl⟩,Sam.refl _ _ _,hda,hn,rl,hs,rfl⟩
 rintro m a1 w1 ⟨d,t,γ1,X,t1,t2,tX,t3,t4,tn,t5,t6,t7⟩
 have hlen:d.length+(t++tl).length<=M:=by rw[<-List.length_append,<-List.append_assoc,t2];exact hM
 have hBJ:BdI S (J I a r o g d (t++tl)):=by
  have:=hL.bdI hB (d:=d) (t:=t++tl) hlen (zqE t2 hMo)
  rwa [J_J]at this
 cases t with
 | nil=>
  rw[List.append_nil]at t2
  subst t2
  have he':zE S n0 nt (J I a r o g d tl) c X.st e IF F:=by
   rcases tX with rfl|⟨rfl,h0⟩
   .exact hend
   .exact hend0 h0
  refine wpIn_mono (he' C γ1 a1 w1 rd hok (by rw[t7];exact hnt) hT hBJ tn rfl t4 t5 t6) fun x a2 w2 ⟨hx,γ2,o1,o2,o3,o4,o5,o6,o7,o8⟩=>?_
  exact zcO (by rw[hx];exact he) ⟨hx,γ2,t3.trans o1,o2,o3,o4,o5,o6,o7,by rw[o8,t7]⟩
 | cons x t=>
  have hx:x.toNat ∈ K:=hall x (by rw[<-t2];simp)
  have t2':(d++[x])++t=all:=by rw[List.append_assoc];exact t2
  have hs1:zE S n0 nt (J I a r o g d (x::(t++tl))) c X.st .n (J I a r o g (d++[x]) (t++tl)) P.st:=by
   rcases tX with rfl|⟨rfl,rfl⟩
   .exact zhc hL hN (hstep _ hx) d (t++tl) hBJ hlen (zqE t2' hMo)
   .exact zvB hL hN (hstep0 _ hx) (t++tl) hBJ (by simpa using hlen) (zqE t2' hMo)
  refine wpIn_mono (hs1 C γ1 a1 w1 rd hok (by rw[t7];exact hnt) hT hBJ tn rfl t4 t5 t6) fun x2 a2 w2 ⟨hx,γ2,o1,o2,o3,o4,o5,o6,o7,o8⟩=>?_
  subst hx
  exact⟨t.length,by rw[<-t1];exact Nat.lt_succ_self _,d++[x],t,γ2,P,rfl,t2',.inl rfl,t3.trans o1,o5,o3,o6,o7,by rw[o8,t7]⟩
end
def idV:BV->Option Nat
 | .p i _=>some i
 | .sl i _ _ _=>some i
 | .sg _ i _ _=>some i
 | .sx i _ _=>some i
 | _=>none
def zgD(n0:Nat)(P:PS)(s:St):List Nat->List (Nat×Nat)
 | []=>[]
 | t::l=>match idV (P.σ.get t),idV (s.σ.get t)with
  | some i,some j=>match and (Nat.ble n0 i) (not (Nat.beq i j))with|true=>(i,j)::zgD n0 P s l|false=>zgD n0 P s l
  | _,_=>zgD n0 P s l
def zop(S:zd)(n n0 a r o:Nat)(f:Nat->List Ck)(sl:List Nat)(c:AC)(P:PS)(b:Nat):Bool:=match ev S n c (sbP (mk [(r,[.k 1 b,.q r])] []) P).st with
 | some (.n,sE)=>and (ze4 sE.d) (leS S n0 (tsB a o b f) (zgD n0 P sE sl) P sE)
 | _=>false
theorem zcl{d:List Df}(h:ze4 d=true):d=[]:=by cases d with
 | nil=>rfl
 | cons=>cases h
theorem zsf(hS:SOk S)(hm:S.P.follows .mixedOrders=true){n a r o b:Nat}{f:Nat->List Ck}{sl:List Nat}{P:PS}(h:zop S n n0 a r o f sl c P b=true)(nt:Nat):zft S n0 nt a r o f c P P b:=by
 unfold zop at h
 split at h
 .rename_i sE hv
  rw[Bool.and_eq_true]at h
  exact⟨sE,_,zaB.ev hS hm hv,zcl h.1,h.2⟩
 .cases h
def zoq(S:zd)(n n0 a r o:Nat)(f:Nat->List Ck)(sl:List Nat)(c:AC)(P0 P:PS)(b:Nat):Bool:=match ev S n c (sbP (mk (ts0 a r o [.k 1 b,.q r]) []) P0).st with
 | some (.n,sE)=>and (ze4 sE.d) (leS S n0 (zAY a o b f) (zgD n0 P sE sl) P sE)
 | _=>false
theorem zsg(hS:SOk S)(hm:S.P.follows .mixedOrders=true){n a r o b:Nat}{f:Nat->List Ck}{sl:List Nat}{P0 P:PS}(h:zoq S n n0 a r o f sl c P0 P b=true)(nt:Nat):zl9 S n0 nt a r o f c P0 P b:=by
 unfold zoq at h
 split at h
 .rename_i sE hv
  rw[Bool.and_eq_true]at h
  exact⟨sE,_,zaB.ev hS hm hv,zcl h.1,h.2⟩
 .cases h
end
end Go.Bm
/-! A function with loops over texts' bytes, looked through. -/
namespace Go.Bm
open Go Go.RowKit
noncomputable section
variable {S:zd}{γ γ' γ1:Nat->Option G}{C:Ctx}{h h':Hp}{w w':World}{n0 nt:Nat}{I:In}{c:AC}{s s':St}{e:Ex}
theorem zmO{next next':Act->World->Prop}{Q:Exit->Act->World->Prop}(h:∀ a w,next a w->next' a w){x:Exit}{a':Act}{w':World}(hx:Exit.then next Q x a' w'):Exit.then next' Q x a' w':=by
 cases x <;> first|exact h _ _ hx|exact hx
def zd.wb(S:zd)(bd:Nat->Option (Nat×Nat)):zd:={ S with bd:=bd }
theorem zkP{bd:Nat->Option (Nat×Nat)}{rr:List Ck}{a r o M Mo:Nat}{f:Nat->List Ck}{g:UInt8->List UInt8}(hS:SOk (S.wb bd))(hm:S.P.follows .mixedOrders=true)(hL:yj S a r o M Mo f g){P:PS}(hN:∀ q,(S.bd q).isSome=true->q<P.n){K:List Nat}(hstep:∀ b ∈ K,zft S n0 nt a r o f c P P b){F:St}{n:Nat}
 {all tl:List UInt8} {x:UInt8} (hall:∀ x ∈ all,x.toNat ∈ K) (hM:(all++x::tl).length<=M) (hMo:(im g all).length<=Mo) (I:In) (hrl:okR S rr=true) (hrt:x::tl=tx (J I a r o g all tl) rr) (hwb:BdI S (J I a r o g all tl)->∀ q x y,bd q=some (x,y)->(S.bd q).isSome=true/\x<=(J I a r o g all tl q).length/\(J I a r o g all tl q).length<=y) (hend:ev (S.wb bd) n (.loop c) (sbP (mk [(r,rr)] []) P).st=some (e,F)) (hF:F.d=[]):
 zE S n0 nt (J I a r o g [] (all++x::tl)) (.loop c) P.st e (J I a r o g all tl) F:=by
 intro C γ ac w rd hok hnt hT hB hn hd0 hda rl hs
 have hok:okC nt rd.isSome c=true:=by simpa[okC]using hok
 let Q:Exit->Act->World->Prop:=fun x a' w'=>x=zeO e/\∃ γ',Sam S n0 γ γ'/\BdI S (J I a r o g all tl)/\n0<=F.h.nx/\F.d=[]/\a'.defers=[]/\Rel (cx C S (J I a r o g all tl)) γ' F.h w'/\yF γ' F.σ a'.tmps/\a'.tmps.size=ac.tmps.size
 let I2:Nat->Act->World->Prop:=fun m a' w'=>∃ s1 γ1,m<=n/\ev (S.wb bd) m (.loop c) s1=some (e,F)/\Sam S n0 γ γ1/\n0<=s1.h.nx/\Rel (cx C S (J I a r o g all tl)) γ1 s1.h w'/\yF γ1 s1.σ a'.tmps/\DRs γ1 s1.d a'.defers/\a'.tmps.size=ac.tmps.size
 have hBJ:BdI S (J I a r o g all tl):=by
  have:=hL.bdI hB (d:=all) (t:=tl) (by have:=hM;simp at this;omega) hMo
  rwa [J_J]at this
 have gw:yC (S.wb bd) (cx C S (J I a r o g all tl)):=by
  have:=gtOk hT hBJ
  refine⟨this.gt,this.sy,fun q x y hq=>?_⟩
  obtain⟨h1,h2⟩:=hwb hBJ q x y hq
  exact⟨_,by
   show syI S (J I a r o g all tl) q=_
   unfold syI
   cases hb:S.bd q with
   | none=>rw[hb]at h1;cases h1
   | some p=>rfl,h2⟩
 have step2:∀ m a1 w1,I2 m a1 w1->c.code.wpIn (FW rd) 0 S.P (Exit.then (fun a' w'=>∃ m',m'<m/\I2 m' a' w') Q) a1 w1:=by
  rintro m a1 w1 ⟨s1,γ1,hm1,hv1,o1,o2,o3,o4,o5,o6⟩
  cases m with
  | zero=>cases hv1
  | succ m=>
   have hv1:thn (ev (S.wb bd) m (.loop c)) (ev (S.wb bd) m c s1)=some (e,F):=hv1
   rcases zks hv1 with⟨s2,h1,h2⟩|⟨h1,hne⟩
   .refine wpIn_mono (zaB.ev hS hm h1 (nt:=nt) (cx C S (J I a r o g all tl)) γ1 a1 w1 rd hok (by rw[o6];exact hnt) gw o3 o4 o5) fun x a2 w2 ⟨hx,γ2,p1,p2,p3,p4,p5,p6⟩=>?_
    subst hx
    exact⟨m,Nat.lt_succ_self m,s2,γ2,by omega,h2,o1.trans (Sam.ext p1 o2),Nat.le_trans o2 p2,p3,p4,p5,by rw[p6,o6]⟩
   .refine wpIn_mono (zaB.ev hS hm h1 (nt:=nt) (cx C S (J I a r o g all tl)) γ1 a1 w1 rd hok (by rw[o6];exact hnt) gw o3 o4 o5) fun x a2 w2 ⟨hx,γ2,p1,p2,p3,p4,p5,p6⟩=>?_
    refine zcO (by rw[hx];exact hne) ⟨hx,γ2,o1.trans (Sam.ext p1 o2),hBJ,Nat.le_trans o2 p2,hF,?_,p3,p4,by rw[p6,o6]⟩
    rw[hF]at p5
    generalize a2.defers=q at p5
    cases p5;rfl
 refine zbu (fun m a' w'=>(∃ d t γ',t.length+n+1=m/\d++t=all/\Sam S n0 γ γ'/\a'.defers=[]/\Rel (cx C S (J I a r o g d (t++x::tl))) γ' P.st.h w'/\yF γ' P.st.σ a'.tmps/\a'.tmps.size=ac.tmps.size)\/I2 m a' w') ?_ (all.length+n+1)
  (.inl ⟨[],all,γ,rfl,rfl,Sam.refl _ _ _,hda,rl,hs,rfl⟩)
 rintro m a1 w1 (⟨d,t,γ1,t1,t2,t3,t4,t5,t6,t7⟩|h2)
 .have hlen:d.length+(t++x::tl).length<=M:=by rw[<-List.length_append,<-List.append_assoc,t2];exact hM
  have hBd:BdI S (J I a r o g d (t++x::tl)):=by
   have:=hL.bdI hB (d:=d) (t:=t++x::tl) hlen (zqE t2 hMo)
   rwa [J_J]at this
  cases t with
  | nil=>
   rw[List.append_nil]at t2
   subst t2
   have hq0:∀ q,(S.bd q).isSome=true->okR S ((mk [(r,rr)] []).t q)=true/\J I a r o g d (x::tl) q=tx (J I a r o g d tl) ((mk [(r,rr)] []).t q):=fun q hq=>by
    rw[zej,zu,zar]
    by_cases e:q=r
    .rw [if_pos e,e,J_r hL];exact⟨hrl,hrt⟩
    .rw [if_neg e]
     refine⟨by show and (S.bd q).isSome (okR S [])=true;rw[hq];rfl,?_⟩
     show _=tx _ [.q q]
     rw[zgd]
     by_cases e1:q=a
     .rw [e1,J_a hL,J_a hL]
     .by_cases e2:q=o
      .rw [e2,J_o,J_o]
      .rw [zfu e1 e e2,zfu e1 e e2]
   obtain⟨u1,u2⟩:=zmL (μ:=mk [(r,rr)] []) (I':=J I a r o g d tl) hBd t5 t6 (fun _=>rfl) hq0 (nb hL _)
   have k:I2 n a1 w1:=⟨_,_,Nat.le_refl _,hend,t3.trans Sam.reT,hn,u1,u2,by rw[t4];exact .nil,t7⟩
   refine wpIn_mono (step2 n a1 w1 k) fun x a2 w2 hx=>?_
   exact zmO (fun a w ⟨m',h1,h2⟩=>⟨m',by have:0+n+1=m:=t1;omega,.inr h2⟩) hx
  | cons b t=>
   have hx:b.toNat ∈ K:=hall b (by rw[<-t2];simp)
   have t2':(d++[b])++t=all:=by rw[List.append_assoc];exact t2
   refine wpIn_mono (zhc hL hN (hstep _ hx) d (t++x::tl) hBd hlen (zqE t2' hMo) C γ1 a1 w1 rd hok (by rw[t7];exact hnt) hT hBd hn rfl t4 t5 t6) fun x2 a2 w2 ⟨hx,γ2,o1,o2,o3,o4,o5,o6,o7,o8⟩=>?_
   subst hx
   exact⟨t.length+n+1,by rw[<-t1];simp,.inl ⟨d++[b],t,γ2,rfl,t2',t3.trans o1,o5,o6,o7,by rw[o8,t7]⟩⟩
 .refine wpIn_mono (step2 m a1 w1 h2) fun x a2 w2 hx=>?_
  exact zmO (fun a w ⟨m',h1,h2⟩=>⟨m',h1,.inr h2⟩) hx
structure La where
 a:Nat
 r:Nat
 o:Nat
 q:Nat
 z:Nat
 M:Nat
 Mo:Nat
 K:List Nat
 X:Option (List Nat)
 ne:Bool
 f:Nat->List Ck
 sl:List Nat
 pat0:St->PS
 pat:St->PS
 back:St->PS
 e:Ex
def isN:Ex->Bool
 | .n=>true
 | _=>false
def eqE:Ex->Ex->Bool
 | .n,.n=>true
 | .x i,.x j=>Nat.beq i j
 | .r,.r=>true
 | _,_=>false
theorem zzC{a b:Ex}(h:eqE a b=true):a=b:=by
 cases a <;> cases b <;> first|rfl|(cases h;done)|(rw[Nat.eq_of_beq_eq_true h])
def zoL(A:La):List (Nat×List Ck):=[(A.a,[]),(A.r,[.q A.q]),(A.o,[])]
def ztq(A:La):List (Nat×List Ck):=[(A.a,[]),(A.r,[]),(A.o,[]),(A.q,[.q A.a]),(A.z,[.q A.o])]
def zDh(A:La):List (Nat×List Ck):=[(A.a,[]),(A.r,[]),(A.o,[]),(A.q,[]),(A.z,[])]
def zud(A:La)(rl:List Ck):List (Nat×List Ck):=[(A.a,[]),(A.r,[]),(A.o,[]),(A.q,.q A.a::rl)]
def bd1(S:zd)(A:La):Nat->Option (Nat×Nat):=fun q=>match Nat.beq q A.r with|true=>some (1,A.M)|false=>S.bd q
def zzE(S:zd)(n0:Nat)(ts:List (Nat×List Ck))(P:PS)(e:Ex):Option (Ex×St)->Bool
 | some (e',F)=>and (eqE e' e) (and (ze4 F.d) (leS S n0 ts [] P F))
 | none=>false
theorem zf4{ts:List (Nat×List Ck)}{P:PS}{r:Option (Ex×St)}(h:zzE S n0 ts P e r=true):∃ F,r=some (e,F)/\F.d=[]/\leS S n0 ts [] P F=true:=by
 cases r with
 | none=>cases h
 | some p=>
  obtain⟨e',F⟩:=p
  have h:and (eqE e' e) (and (ze4 F.d) (leS S n0 ts [] P F))=true:=h
  rw[Bool.and_eq_true,Bool.and_eq_true]at h
  exact⟨F,by rw[zzC h.1],zcl h.2.1,h.2.2⟩
def zEb(S:zd)(n n0:Nat)(A:La)(L:AC)(s:St)(x:Nat):Bool:=and (zzE S n0 (zud A [.k 1 x]) (A.back s) A.e (ev S n (.loop L) (sbP (mk [(A.r,[.k 1 x])] []) (A.pat s)).st)) (zzE S n0 (zud A [.k 1 x,.q A.r]) (A.back s) A.e (ev (S.wb (bd1 S A)) n (.loop L) (sbP (mk [(A.r,[.k 1 x,.q A.r])] []) (A.pat s)).st))
def zuo (S : zd) (n n0 : Nat) (A : La) (L : AC) (s : St) : Option (Ex × St) := match and (and (not (isN A.e)) (Nat.ble n0 (A.pat s).n)) (and (zpm (zop S n n0 A.a A.r A.o A.f A.sl L (A.pat s)) A.K) (match A.X with
    | none=>and (and (leS S n0 (zoL A) [] (A.pat0 s) s) (zpm (zoq S n n0 A.a A.r A.o A.f A.sl L (A.pat0 s) (A.pat s)) A.K)) (and (or A.ne (zzE S n0 (zDh A) (A.back s) A.e (ev S n L (sbP (mk (ts0 A.a A.r A.o []) []) (A.pat0 s)).st))) (zzE S n0 (ztq A) (A.back s) A.e (ev S n L (sbP (mk [(A.r,[])] []) (A.pat s)).st)))
    | some X=>and (leS S n0 (zoL A) [] (A.pat s) s) (zpm (zEb S n n0 A L s) X)))with
 | true=>some (A.e,(A.back s).st)
 | false=>none
def thnL(k:List La->St->Option (Ex×St×List La)):Option (Ex×St×List La)->Option (Ex×St×List La)
 | some (.n,s,b)=>k b s
 | r=>r
def zFd(i:Nat):Option (Ex×St×List La)->Option (Ex×St×List La)
 | some (.x j,s,b)=>match Nat.beq j i with|true=>some (.n,s,b)|false=>some (.x j,s,b)
 | r=>r
def zqv(b:List La):Option (Ex×St)->Option (Ex×St×List La)
 | some (e,s')=>match ze4 s'.d with|true=>some (e,s',b)|false=>none
 | none=>none
def evL(S:zd)(n n0:Nat):AC->List La->St->Option (Ex×St×List La)
 | .seq c1 c2,b,s=>thnL (evL S n n0 c2) (evL S n n0 c1 b s)
 | .block i c,b,s=>zFd i (evL S n n0 c b s)
 | .scope c,b,s=>evL S n n0 c b s
 | .cond o x y,b,s=>match opv s.σ o with
  | .b true=>evL S n n0 x b s
  | .b false=>evL S n n0 y b s
  | _=>none
 | .loop L,A::b,s=>zqv b (zuo S n n0 A L s)
 | c,b,s=>zqv b (ev S n c s)
structure zi1(S:zd)(n0:Nat)(A:La)(I:In):Prop where
 sa:S.sy A.a=none
 sr:S.sy A.r=none
 so:S.sy A.o=none
 ba:S.bd A.a=some (0,A.M)
 br:S.bd A.r=some (0,A.M)
 bo:S.bd A.o=some (0,A.Mo)
 ar:A.a≠A.r
 ao:A.a≠A.o
 ro:A.r≠A.o
 qa:A.q≠A.a
 qr:A.q≠A.r
 qo:A.q≠A.o
 za:A.z≠A.a
 zr:A.z≠A.r
 lt:∀ q,(S.bd q).isSome=true->q<n0
 ia:I A.a=[]
 ir:I A.r=[]
 io:I A.o=[]
 M:(I A.q).length<=A.M
 ne:A.ne=true->I A.q≠[]
 g:∃ g,(∀ (x:UInt8) (I:In),tx I (A.f x.toNat)=g x)/\(im g (I A.q)).length<=A.Mo/\(A.X=none->(A.z≠A.o->A.z≠A.q->I A.z=im g (I A.q))/\∀ x ∈ I A.q,x.toNat ∈ A.K)
 sw:A.X.isSome=true->SOk (S.wb (bd1 S A))
 X:∀ X,A.X=some X->∃ d x t,I A.q=d++x::t/\(∀ x ∈ d,x.toNat ∈ A.K)/\x.toNat ∈ X
theorem zE.exit(he:zeO e≠.normal){c1 c2:AC}{I':In}(h1:zE S n0 nt I c1 s e I' s'):zE S n0 nt I (.seq c1 c2) s e I' s':=by
 intro C γ a w rd hok hnt hT hB hn hd0 hda r hs
 have hok:and (okC nt rd.isSome c1) (okC nt rd.isSome c2)=true:=by simpa[okC]using hok
 rw[Bool.and_eq_true]at hok
 refine wpIn_seq ?_
 refine wpIn_mono (h1 C γ a w rd hok.1 hnt hT hB hn hd0 hda r hs) fun x a1 w1 ⟨hx,ho⟩=>?_
 exact zcO (by rw[hx];exact he) ⟨hx,ho⟩
theorem zE.blockN{i:Nat}{I':In}(h:zE S n0 nt I c s .n I' s'):zE S n0 nt I (.block i c) s .n I' s':=by
 intro C γ a w rd hok hnt hT hB hn hd0 hda r hs
 have hok:okC nt rd.isSome c=true:=by simpa[okC]using hok
 refine wpIn_block ?_
 refine wpIn_mono (h C γ a w rd hok hnt hT hB hn hd0 hda r hs) fun x a1 w1 ⟨hx,ho⟩=>?_
 subst hx
 exact⟨rfl,ho⟩
theorem zE.blockX{i j:Nat}(hij:Nat.beq j i=false){I':In}(h:zE S n0 nt I c s (.x j) I' s'):zE S n0 nt I (.block i c) s (.x j) I' s':=by
 intro C γ a w rd hok hnt hT hB hn hd0 hda r hs
 have hok:okC nt rd.isSome c=true:=by simpa[okC]using hok
 refine wpIn_block ?_
 refine wpIn_mono (h C γ a w rd hok hnt hT hB hn hd0 hda r hs) fun x a1 w1 ⟨hx,ho⟩=>?_
 subst hx
 have hne:=Nat.ne_of_beq_eq_false hij
 show Exit.inBlock i _ (.exit j) a1 w1
 simp only[Exit.inBlock,if_neg hne]
 exact⟨rfl,ho⟩
theorem zE.cond{o:Operand}{x y:AC}{b:Bool}(hb:opv s.σ o=.b b){I':In}(h:zE S n0 nt I (match b with|true=>x|false=>y) s e I' s'):zE S n0 nt I (.cond o x y) s e I' s':=by
 intro C γ a w rd hok hnt hT hB hn hd0 hda r hs
 have hok:and (okC nt rd.isSome x) (okC nt rd.isSome y)=true:=by simpa[okC]using hok
 rw[Bool.and_eq_true]at hok
 have hc:=zo hs o
 rw[hb]at hc
 generalize hz:a.eval o=z at hc
 cases hc
 refine wpIn_cond_split hz (fun hb=>?_) (fun hb=>?_)
 .subst hb;exact h C γ a w rd hok.1 hnt hT hB hn hd0 hda r hs
 .subst hb;exact h C γ a w rd hok.2 hnt hT hB hn hd0 hda r hs
theorem zDs{A:La}(hA:zi1 S n0 A I)(g:UInt8->List UInt8){q:Nat}:J I A.a A.r A.o g [] (I A.q) q=tx I ((mk (zoL A) []).t q):=by
 rw[zej]
 unfold zoL
 rw[zu,zu,zu,zar]
 unfold J
 by_cases e1:q=A.a
 .rw [if_pos e1,e1,zeE hA.ao,zeE hA.ar,zfB];rfl
 .rw [if_neg e1]
  by_cases e2:q=A.r
  .rw [if_pos e2,e2,zeE hA.ro,zfB,zgd]
  .rw [if_neg e2]
   by_cases e3:q=A.o
   .rw [if_pos e3,e3,zfB];rfl
   .rw [if_neg e3,zeE e3,zeE e2,zeE e1]
    show _=tx I [.q q]
    rw[zgd]
theorem zyA(hS:SOk S)(hm:S.P.follows .mixedOrders=true){A:La}(hA:zi1 S n0 A I){n:Nat}{L:AC}(hv:zuo S n n0 A L s=some (e,s')):
 zE S n0 nt I (.loop L) s e I s'/\s'.d=[]:=by
 unfold zuo at hv
 split at hv
 .rename_i hb
  cases hv
  refine⟨?_,rfl⟩
  simp only[Bool.and_eq_true]at hb
  obtain⟨⟨h0,hnP⟩,h2,h3⟩:=hb
  have he:zeO A.e≠.normal:=by
   cases hAe:A.e with
   | n=>rw[hAe]at h0;cases h0
   | x i=>simp[zeO]
   | r=>simp[zeO]
  have hPn:∀ {ts:List (Nat×List Ck)} {P:PS} {s:St},leS S n0 ts [] P s=true->∀ q,(S.bd q).isSome=true->q<P.n:=fun {ts P s} h q hq=>by
   unfold leS at h
   simp only[Bool.and_eq_true]at h
   exact Nat.lt_of_lt_of_le (hA.lt q hq) (Nat.le_of_ble_eq_true h.2.2.1)
  have hr:=zcN h2
  obtain⟨g,hg,hMo,hX0⟩:=hA.g
  have hL:yj S A.a A.r A.o A.M A.Mo A.f g:=⟨hA.sa,hA.sr,hA.so,hA.ba,hA.br,hA.bo,hA.ar,hA.ao,hA.ro,hg⟩
  have hst:∀ b ∈ A.K,zft S n0 nt A.a A.r A.o A.f L (A.pat s) (A.pat s) b:=fun b hb=>zsf hS hm (hr b hb) nt
  have hB1:BdI S I->BdI S (J I A.a A.r A.o g [] (I A.q)):=fun hB=>hL.bdI hB (by show 0+_<=_;have:=hA.M;omega) (Nat.zero_le _)
  have bk:∀ {d u:List UInt8},BdI S (J I A.a A.r A.o g d u)->BdI S I:=fun {d u} hB=>by
   refine⟨fun q x y hq=>?_,fun q t hq=>⟨(hB.sy q t hq).1,by rw[<-(hB.sy q t hq).2,zfu (fun e=>by rw[e,hA.sa]at hq;cases hq) (fun e=>by rw[e,hA.sr]at hq;cases hq) (fun e=>by rw[e,hA.so]at hq;cases hq)]⟩⟩
   by_cases e1:q=A.a
   .subst e1;rw[hA.ba]at hq;cases hq;rw[hA.ia];exact⟨Nat.le_refl _,Nat.zero_le _⟩
   .by_cases e2:q=A.r
    .subst e2;rw[hA.br]at hq;cases hq;rw[hA.ir];exact⟨Nat.le_refl _,Nat.zero_le _⟩
    .by_cases e3:q=A.o
     .subst e3;rw[hA.bo]at hq;cases hq;rw[hA.io];exact⟨Nat.le_refl _,Nat.zero_le _⟩
     .have:=hB.bd q x y hq
      rwa [zfu e1 e2 e3]at this
  cases hX:A.X with
  | none=>
   rw[hX]at h3
   simp only[Bool.and_eq_true,Bool.or_eq_true]at h3
   obtain⟨⟨h1,h4⟩,h5,h6⟩:=h3
   have hr0:=zcN h4
   refine zE.fold h1 (hPn h1) hB1 (fun _ q hq=>zDs hA g) ?_
   obtain⟨F,f1,f2,f3⟩:=zf4 h6
   obtain⟨hz,hK⟩:=hX0 hX
   have post:∀ {c:AC} {s1:St} {F:St},BdI S I->leS S n0 (ztq A) [] (A.back s) F=true->zE S n0 nt (J I A.a A.r A.o g (I A.q) []) c s1 A.e (J I A.a A.r A.o g (I A.q) []) F->zE S n0 nt (J I A.a A.r A.o g (I A.q) []) c s1 A.e I (A.back s).st:=fun {c s1 F} hBI f3 k=>by
    refine zE.post k f3 (hPn f3) (fun _=>hBI) fun _ q hq=>?_
    rw[zej]
    unfold ztq
    rw[zu,zu,zu,zu,zu,zar]
    by_cases e1:q=A.a
    .rw [if_pos e1,e1,hA.ia];rfl
    .rw [if_neg e1]
     by_cases e2:q=A.r
     .rw [if_pos e2,e2,hA.ir];rfl
     .rw [if_neg e2]
      by_cases e3:q=A.o
      .rw [if_pos e3,e3,hA.io];rfl
      .rw [if_neg e3]
       by_cases e4:q=A.q
       .rw [if_pos e4,e4]
        show _=tx _ [.q A.a]
        rw[zgd,J_a hL]
       .rw [if_neg e4]
        by_cases e5:q=A.z
        .rw [if_pos e5,e5,hz (fun h=>e3 (e5.trans h)) (fun h=>e4 (e5.trans h))]
         show _=tx _ [.q A.o]
         rw[zgd,J_o]
        .rw [if_neg e5]
         show _=tx _ [.q q]
         rw[zgd,zfu e1 e2 e3]
   intro C γ a w rd hok hnt hT hB hn hd0 hda r hs
   have hBI:=bk hB
   have un:∀ {P:PS} {F:St},ev S n L (sbP (mk [(A.r,[])] []) P).st=some (A.e,F)->F.d=[]->zE S n0 nt (J I A.a A.r A.o g (I A.q) []) L P.st A.e (J I A.a A.r A.o g (I A.q) []) F:=fun {P F} f1 f2=>zE.unfold (μ:=mk [(A.r,[])] []) (I1:=J I A.a A.r A.o g (I A.q) []) (fun _=>rfl) (fun _ q hq=>⟨ok0 q hq,zEk hL _ q⟩) (nb hL _) id (zE.of (zaB.ev hS hm f1) f2)
   have k:=zvA (nt:=nt) hL (P0:=A.pat0 s) (P:=A.pat s) (F:=(A.back s).st) (IF:=I) (all:=I A.q) (tl:=[]) (fun q hq=>Nat.lt_of_lt_of_le (hA.lt q hq) (Nat.le_of_ble_eq_true hnP)) (fun b hb=>zsg hS hm (hr0 b hb) nt) hst he hK (by rw[List.append_nil];exact hA.M) hMo I
    (fun h0=>by
     rcases h5 with h5|h5
     .exact absurd h0 (hA.ne h5)
     .obtain ⟨F0,f1',f2',f3'⟩:=zf4 h5
      refine zE.post (zE.unfold (μ:=mk (ts0 A.a A.r A.o []) []) (I1:=J I A.a A.r A.o g [] []) (fun _=>rfl) (fun _ q hq=>⟨zyh hL rfl q hq,by rw[h0];exact zyX hL (t:=[]) (t':=[]) (l:=[]) rfl q⟩) (nb0 hL _) (fun hB=>by rwa [h0]at hB) (zE.of (zaB.ev hS hm f1') f2')) f3' (hPn f3') (fun _=>hBI) fun _ q hq=>?_
      rw[zej]
      unfold zDh
      rw[zu,zu,zu,zu,zu,zar]
      by_cases e1:q=A.a
      .rw [if_pos e1,e1,hA.ia];rfl
      .rw [if_neg e1]
       by_cases e2:q=A.r
       .rw [if_pos e2,e2,hA.ir];rfl
       .rw [if_neg e2]
        by_cases e3:q=A.o
        .rw [if_pos e3,e3,hA.io];rfl
        .rw [if_neg e3]
         by_cases e4:q=A.q
         .rw [if_pos e4,e4,h0];rfl
         .rw [if_neg e4]
          by_cases e5:q=A.z
          .rw [if_pos e5,e5,hz (fun h=>e3 (e5.trans h)) (fun h=>e4 (e5.trans h)),h0];rfl
          .rw [if_neg e5]
           show _=tx _ [.q q]
           rw[zgd,zfu e1 e2 e3]) (post hBI f3 (un f1 f2))
   rw[List.append_nil]at k
   exact k C γ a w rd hok hnt hT hB hn hd0 hda r hs
  | some X=>
   rw[hX]at h3
   simp only[Bool.and_eq_true]at h3
   obtain⟨h1,h3⟩:=h3
   refine zE.fold h1 (hPn h1) hB1 (fun _ q hq=>zDs hA g) ?_
   obtain⟨d,x,t,x1,x2,x3⟩:=hA.X X hX
   have h4:zEb S n n0 A L s x.toNat=true:=zcN h3 _ x3
   unfold zEb at h4
   rw[Bool.and_eq_true]at h4
   have hMd:(im g d).length<=A.Mo:=by
    have:=hMo
    rw[x1]at this
    unfold im at this ⊢
    rw[List.flatMap_append,List.length_append]at this;omega
   have okx:∀ l,okR S l=true->okR S (.k 1 x.toNat::l)=true:=fun l hl=>by
    have h1:Nat.blt x.toNat (Nat.pow 256 1)=true:=zfj (by have:=x.toNat_lt;show x.toNat<256^1;omega)
    show and (Nat.blt x.toNat (Nat.pow 256 1)) (okR S l)=true
    rw[h1,hl];rfl
   have fin:∀ {rl:List Ck} {F:St},x::t=tx (J I A.a A.r A.o g d t) rl->leS S n0 (zud A rl) [] (A.back s) F=true->zE S n0 nt (J I A.a A.r A.o g [] (d++x::t)) (.loop L) (A.pat s).st A.e (J I A.a A.r A.o g d t) F->zE S n0 nt (J I A.a A.r A.o g [] (d++x::t)) (.loop L) (A.pat s).st A.e I (A.back s).st:=fun {rl F} hrt f3 k=>by
    intro C γ a w rd hok hnt hT hB hn hd0 hda r hs
    refine zE.post k f3 (hPn f3) (fun _=>bk hB) (fun _ q hq=>?_) C γ a w rd hok hnt hT hB hn hd0 hda r hs
    rw[zej]
    unfold zud
    rw[zu,zu,zu,zu,zar]
    by_cases e1:q=A.a
    .rw [if_pos e1,e1,hA.ia];rfl
    .rw [if_neg e1]
     by_cases e2:q=A.r
     .rw [if_pos e2,e2,hA.ir];rfl
     .rw [if_neg e2]
      by_cases e3:q=A.o
      .rw [if_pos e3,e3,hA.io];rfl
      .rw [if_neg e3]
       by_cases e4:q=A.q
       .rw [if_pos e4,e4]
        show _=J I A.a A.r A.o g d t A.a++tx _ rl
        rw[J_a hL,<-hrt,x1]
       .rw [if_neg e4]
        show _=tx _ [.q q]
        rw[zgd,zfu e1 e2 e3]
   rw[x1]
   cases t with
   | nil=>
    obtain⟨F,f1,f2,f3⟩:=zf4 h4.1
    have hrt:x::[]=tx (J I A.a A.r A.o g d []) [.k 1 x.toNat]:=by show _=dec 1 x.toNat++[];rw[zev];rfl
    exact fin hrt f3 (zkP (bd:=S.bd) (nt:=nt) hS hm hL (hPn h1) hst (F:=F) (n:=n) (all:=d) (tl:=[]) (x:=x) x2 (by rw[<-x1];exact hA.M) hMd I (okx [] rfl) hrt (fun hB q u v hq=>⟨by rw[hq];rfl,hB.bd q u v hq⟩) f1 f2)
   | cons y t=>
    obtain⟨F,f1,f2,f3⟩:=zf4 h4.2
    have hrt:x::y::t=tx (J I A.a A.r A.o g d (y::t)) [.k 1 x.toNat,.q A.r]:=by show _=dec 1 x.toNat++(J I A.a A.r A.o g d (y::t) A.r++[]);rw[zev,J_r hL,List.append_nil];rfl
    refine fin hrt f3 (zkP (bd:=bd1 S A) (nt:=nt) (hA.sw (by rw[hX];rfl)) hm hL (hPn h1) hst (F:=F) (n:=n) (all:=d) (tl:=y::t) (x:=x) x2 (by rw[<-x1];exact hA.M) hMd I (okx _ ?_) hrt (fun hB q u v hq=>?_) f1 f2)
    .show and (S.bd A.r).isSome (okR S [])=true
     rw[hA.br];rfl
    .unfold bd1 at hq
     split at hq
     .rename_i hr'
      have e:=Nat.eq_of_beq_eq_true hr'
      subst e
      cases hq
      have:=hB.bd _ _ _ hA.br
      exact⟨by rw[hA.br];rfl,by rw[J_r hL];simp,this.2⟩
     .exact ⟨by rw[hq];rfl,hB.bd q u v hq⟩
 .cases hv
theorem zat{b b':List La}{r:Option (Ex×St)}(hv:zqv b r=some (e,s',b')):r=some (e,s')/\s'.d=[]/\b'=b:=by
 cases r with
 | none=>cases hv
 | some p=>
  obtain⟨e1,s1⟩:=p
  unfold zqv at hv
  dsimp only at hv
  split at hv
  .rename_i hd
   cases hv
   exact⟨rfl,zcl hd,rfl⟩
  .cases hv
theorem zgP(hS:SOk S)(hm:S.P.follows .mixedOrders=true){n:Nat}:
 ∀ (c:AC) (b:List La) (s:St) (e:Ex) (s':St) (b':List La),(∀ A ∈ b,zi1 S n0 A I)->evL S n n0 c b s=some (e,s',b')->zE S n0 nt I c s e I s'/\∀ A ∈ b',zi1 S n0 A I
 | .seq c1 c2,b,s,e,s',b',hA,hv=>by
  have hv:thnL (evL S n n0 c2) (evL S n n0 c1 b s)=some (e,s',b'):=by unfold evL at hv;exact hv
  cases h1:evL S n n0 c1 b s with
  | none=>rw[h1]at hv;cases hv
  | some p=>
   obtain⟨e1,s1,b1⟩:=p
   rw[h1]at hv
   have k1:=zgP hS hm c1 b s e1 s1 b1 hA h1
   cases e1 with
   | n=>have k2:=zgP hS hm c2 b1 s1 e s' b' k1.2 hv;exact⟨k1.1.seq k2.1,k2.2⟩
   | x i=>cases hv;exact⟨k1.1.exit (by simp[zeO]),k1.2⟩
   | r=>cases hv;exact⟨k1.1.exit (by simp[zeO]),k1.2⟩
 | .block i c,b,s,e,s',b',hA,hv=>by
  have hv:zFd i (evL S n n0 c b s)=some (e,s',b'):=by unfold evL at hv;exact hv
  cases h1:evL S n n0 c b s with
  | none=>rw[h1]at hv;cases hv
  | some p=>
   obtain⟨e1,s1,b1⟩:=p
   rw[h1]at hv
   have k1:=zgP hS hm c b s e1 s1 b1 hA h1
   cases e1 with
   | n=>cases hv;exact⟨k1.1.blockN,k1.2⟩
   | r=>cases hv;exact⟨k1.1.blockR,k1.2⟩
   | x j=>
    unfold zFd at hv
    dsimp only at hv
    split at hv
    .rename_i hj
     cases hv
     have:=Nat.eq_of_beq_eq_true hj
     subst this
     exact⟨k1.1.block,k1.2⟩
    .rename_i hj
     cases hv
     exact⟨k1.1.blockX hj,k1.2⟩
 | .scope c,b,s,e,s',b',hA,hv=>by
  have hv:evL S n n0 c b s=some (e,s',b'):=by unfold evL at hv;exact hv
  have k:=zgP hS hm c b s e s' b' hA hv
  exact⟨k.1.scope,k.2⟩
 | .cond o x y,b,s,e,s',b',hA,hv=>by
  unfold evL at hv
  split at hv
  .rename_i ho;have k:=zgP hS hm x b s e s' b' hA hv;exact⟨zE.cond ho k.1,k.2⟩
  .rename_i ho;have k:=zgP hS hm y b s e s' b' hA hv;exact⟨zE.cond ho k.1,k.2⟩
  .cases hv
 | .loop L,A::b,s,e,s',b',hA,hv=>by
  have hv:zqv b (zuo S n n0 A L s)=some (e,s',b'):=by unfold evL at hv;exact hv
  obtain⟨k1,k2,rfl⟩:=zat hv
  exact⟨(zyA hS hm (hA A (by simp)) k1).1,fun B hB=>hA B (by simp[hB])⟩
 | .loop L,[],s,e,s',b',hA,hv=>by
  obtain⟨k1,k2,rfl⟩:=zat (by unfold evL at hv;exact hv)
  exact⟨zE.of (zaB.ev hS hm k1) k2,hA⟩
 | .skip,b,s,e,s',b',hA,hv=>by
  obtain⟨k1,k2,rfl⟩:=zat (by unfold evL at hv;exact hv)
  exact⟨zE.of (zaB.ev hS hm k1) k2,hA⟩
 | .reg _ _ _ _,b,s,e,s',b',hA,hv=>by
  obtain⟨k1,k2,rfl⟩:=zat (by unfold evL at hv;exact hv)
  exact⟨zE.of (zaB.ev hS hm k1) k2,hA⟩
 | .rng _ _ _ _,b,s,e,s',b',hA,hv=>by
  obtain⟨k1,k2,rfl⟩:=zat (by unfold evL at hv;exact hv)
  exact⟨zE.of (zaB.ev hS hm k1) k2,hA⟩
 | .exit _,b,s,e,s',b',hA,hv=>by
  obtain⟨k1,k2,rfl⟩:=zat (by unfold evL at hv;exact hv)
  exact⟨zE.of (zaB.ev hS hm k1) k2,hA⟩
 | .label _,b,s,e,s',b',hA,hv=>by
  obtain⟨k1,k2,rfl⟩:=zat (by unfold evL at hv;exact hv)
  exact⟨zE.of (zaB.ev hS hm k1) k2,hA⟩
 | .ret,b,s,e,s',b',hA,hv=>by
  obtain⟨k1,k2,rfl⟩:=zat (by unfold evL at hv;exact hv)
  exact⟨zE.of (zaB.ev hS hm k1) k2,hA⟩
 | .bad _,b,s,e,s',b',hA,hv=>by
  obtain⟨k1,k2,rfl⟩:=zat (by unfold evL at hv;exact hv)
  exact⟨zE.of (zaB.ev hS hm k1) k2,hA⟩
theorem zg.ofRunE(hS:SOk S){f:FuncId}{fn:Func}{b:Code}{xs:List BV}{h:Hp}{v:BV}{l:List BV}{s1:St}(hf:S.fn f=some fn)(hb:fn.body=some b)(hr:∀ nt,zaB S nt (AC.of (S.plan f) b) ⟨zdf xs,h,[]⟩ .r s1)(hd:s1.d=[])(hl:zil S s1.σ s1.h fn.results.toList=some l)(hv:zmi l=v):
 zg S f xs h v s1.h:=by
 have key:zgu S (zp5 (AC.of (S.plan f) b) ⟨zdf xs,h,[]⟩ .r s1) f (S.fn f) xs h=some (v,s1.h):=by
  rw[hf]
  unfold zgu
  dsimp only
  rw[hb]
  dsimp only
  have:zp5 (AC.of (S.plan f) b) ⟨zdf xs,h,[]⟩ .r s1 (AC.of (S.plan f) b) ⟨zdf xs,h,[]⟩=some (.r,s1):=by
   unfold zp5
   rw[if_pos ⟨rfl,rfl⟩]
  rw[this]
  unfold zD5
  dsimp only
  rw[hd]
  unfold zsc
  dsimp only
  rw[hl]
  show some (zmi l,s1.h)=_
  rw[hv]
 intro C γ w vs hG r hx
 obtain⟨h1,h2⟩:=zfi hS (zxX hr) key C γ w vs hG r hx
 exact .inr ⟨ym h1 _ _,h2⟩
theorem zAQ{L:List Nat}(t:TypeId):wid (S.off L) t=wid S t:=rfl
theorem zvR{L:List Nat}{t:TypeId}(x:BV):ze3 (S.off L) h t x=ze3 S h t x:=by
 cases x <;> (try rfl) <;> simp only[ze3] <;> rw[zAQ] <;> rfl
theorem zp3{L:List Nat}{σ:Tr BV}:∀ l,zil (S.off L) σ h l=zil S σ h l
 | []=>rfl
 | x::l=>by
  have e:zBr (S.off L) σ h x=zBr S σ h x:=by cases x with
   | tmp t=>rfl
   | cell t ty=>exact zvR _
  unfold zil
  rw[e,zp3 l]
def ziV(S:zd)(n n0:Nat)(b:List La)(ts:List (Nat×List Ck))(os:List (Nat×Nat))(fin:St->PS)(f:FuncId)(fn:Func)(c:Code)(xs:List BV)(h:Hp):Option (BV×Hp):=match evL S n n0 (AC.of (S.plan f) c) b ⟨zdf xs,h,[]⟩ with
 | some (.r,s1,_)=>match leS S n0 ts os (fin s1) s1 with
  | true=>match zil S (fin s1).st.σ (fin s1).st.h fn.results.toList with
   | some l=>some (zmi l,(fin s1).st.h)
   | none=>none
  | false=>none
 | _=>none
def zwL(I:In):List (Nat×List Ck)->Prop
 | []=>True
 | x::l=>I x.1=tx I x.2/\zwL I l
theorem ziX{I:In}{q:Nat}{r:List Ck}:∀ {l:List (Nat×List Ck)},zwL I l->lkT q l=some r->I q=tx I r
 | [],_,h=>by cases h
 | x::l,h,hk=>by
  rw[zu]at hk
  split at hk
  .rename_i e;cases hk;rw[e];exact h.1
  .exact ziX h.2 hk
theorem zbP{U:zd}{L:List Nat}(hU:U=S.off L)(hS:SOk S)(hSU:SOk U)(hm:S.P.follows .mixedOrders=true){b:List La}(hsb:∀ q t,S.sy q=some t->(S.bd q).isSome=true)(hlt:∀ q,(S.bd q).isSome=true->q<n0){ts:List (Nat×List Ck)}(hA:∀ I,BdI S I->(∀ A ∈ b,zi1 U n0 A I)/\zwL I ts){os:List (Nat×Nat)}{n:Nat}{fin:St->PS}{f:FuncId}{fn:Func}{c:Code}{xs:List BV}{h h':Hp}{v:BV}
 (hn:h.nx=n0) (hf:S.fn f=some fn) (hb:fn.body=some c) (hv:ziV U n n0 b ts os fin f fn c xs h=some (v,h')):zg S f xs h v h':=by
 subst hU
 unfold ziV at hv
 split at hv
 .rename_i s1 b1 h1
  split at hv
  .rename_i hl
   split at hv
   .rename_i l hl2
    cases hv
    have run:∀ nt,zaB S nt (AC.of (S.plan f) c) ⟨zdf xs,h,[]⟩ .r (fin s1).st:=fun nt=>by
     refine zE.ok (L:=L) hsb (fun I hI=>?_) rfl
     obtain⟨a1,a2⟩:=hA I hI
     have k:=(zgP (S:=S.off L) (nt:=nt) hSU hm _ _ _ _ _ _ a1 h1).1
     have hPn:n0<=(fin s1).n:=by
      unfold leS at hl
      simp only[Bool.and_eq_true]at hl
      exact Nat.le_of_ble_eq_true hl.2.2.1
     have k2:zE (S.off L) n0 nt I (AC.of (S.plan f) c) ⟨zdf xs,h,[]⟩ .r I (fin s1).st:=by
      refine zE.post k hl (fun q hq=>Nat.lt_of_lt_of_le (hlt q hq) hPn) (fun _=>hI.off) fun _ q hq=>?_
      rw[zej]
      cases hk:lkT q ts with
      | none=>show _=tx _ [.q (lkN q os)];rw[zsE hl hq,zgd]
      | some r=>exact ziX a2 hk
     rw[<-hn]at k2
     exact k2
    rw[zp3]at hl2
    exact zg.ofRunE hS hf hb run rfl hl2 rfl
   .cases hv
  .cases hv
 .cases hv
def zE9(S:zd)(n n0:Nat)(ts:List (Nat×List Ck))(P1:PS)(f:FuncId)(c:Code)(xs:List BV)(l:List (Nat×Ob)):Bool:=match ev S n (AC.of (S.plan f) c) (sbP (mk ts []) ⟨zdf xs,n0,l⟩).st with
 | some (.r,F)=>and (ze4 F.d) (leS S n0 ts [] P1 F)
 | _=>false
theorem zCF{U:zd}{L:List Nat}(hU:U=S.off L)(hS:SOk S)(hSU:SOk U)(hm:S.P.follows .mixedOrders=true)(hsb:∀ q t,S.sy q=some t->(S.bd q).isSome=true)(hlt:∀ q,(S.bd q).isSome=true->q<n0){ts:List (Nat×List Ck)}(hA:∀ I,BdI S I->zwL I ts){n:Nat}{P1:PS}{f:FuncId}{fn:Func}{c:Code}{xs vs:List BV}{l:List (Nat×Ob)}{v:BV}
 (hf:S.fn f=some fn) (hb:fn.body=some c) (hv:zE9 U n n0 ts P1 f c xs l=true) (hr:zil S P1.st.σ P1.st.h fn.results.toList=some vs) (hvs:zmi vs=v):zg S f xs ⟨n0,zbK l⟩ v P1.st.h:=by
 subst hU
 unfold zE9 at hv
 split at hv
 .rename_i F h1
  rw[Bool.and_eq_true]at hv
  have hd:=zcl hv.1
  have hl:=hv.2
  have hl':=hl
  unfold leS at hl'
  simp only[Bool.and_eq_true]at hl'
  obtain⟨⟨_,_⟩,⟨_,hts⟩,hn,_⟩:=hl'
  have hn:=Nat.le_of_ble_eq_true hn
  have tIn:∀ I,BdI S I->∀ q,I q=tx I ((mk ts []).t q):=fun I hI q=>by
   rw[zej]
   cases hk:lkT q ts with
   | none=>show _=tx _ [.q q];rw[zgd]
   | some r=>exact ziX (hA I hI) hk
  have run:∀ nt,zaB S nt (AC.of (S.plan f) c) ⟨zdf xs,⟨n0,zbK l⟩,[]⟩ .r P1.st:=fun nt=>by
   refine zE.ok (L:=L) hsb (fun I hI=>?_) rfl
   have un:zE (S.off L) n0 nt I (AC.of (S.plan f) c) (PS.st ⟨zdf xs,n0,l⟩) .r I F:=
    zE.unfold (μ:=mk ts []) (I1:=I) (fun _=>rfl) (fun _ q hq=>⟨by
     rw[zej]
     cases hk:lkT q ts with
     | none=>show and (S.bd q).isSome (okR (S.off L) [])=true;rw[show(S.bd q).isSome=true from hq];rfl
     | some r=>exact(zdN hts hk).2.2,tIn I hI q⟩) (fun q hq=>by
     rw[zej]
     cases hk:lkT q ts with
     | none=>rfl
     | some r=>have:=(zdN hts hk).2.1;rw[hq]at this;cases this) id (zE.of (zaB.ev hSU hm h1) hd)
   exact zE.post un hl (fun q hq=>Nat.lt_of_lt_of_le (hlt q hq) hn) (fun h=>h) fun _ q _=>tIn I hI q
  exact zg.ofRunE hS hf hb run rfl hr hvs
 .cases hv
end
end Go.Bm
/-! Calls whose outcome hangs on texts that are not looked at. -/
namespace Go.Bm
open Go Go.RowKit
variable {S:zd}{γ γ':Nat->Option G}{C:Ctx}{h h':Hp}{w w':World}
def zjT(S:zd)(x y:BV):Prop:=∀ (γ:Nat->Option G) (z:Value),(∀ q t,S.sy q=some t->∃ g,γ q=some g/\g.T=t)->zf γ x z->zf γ y z
theorem zjT.refl(x:BV):zjT S x x:=fun _ _ _ h=>h
inductive zeL(S:zd):List BV->List BV->Prop
 | nil:zeL S [] []
 | cons {x y:BV} {l r:List BV} (h:zjT S x y) (t:zeL S l r):zeL S (x::l) (y::r)
theorem zeL.refl:∀ l:List BV,zeL S l l
 | []=>.nil
 | x::l=>.cons (zjT.refl x) (zeL.refl l)
theorem zeL.brels{l r:List BV}(h:zeL S l r){vs:List Value}(hγ:∀ q t,S.sy q=some t->∃ g,γ q=some g/\g.T=t)(hx:zm γ l vs):zm γ r vs:=by
 induction h generalizing vs with
 | nil=>exact hx
 | cons h t ih=>
  obtain⟨v,r',rfl,h1,h2⟩:=hx.cons_inv
  exact .cons (h γ v hγ h1) (ih h2)
theorem zg.tell{f:FuncId}{xs ys:List BV}{u0 v:BV}(hx:zeL S xs ys)(hv:zjT S u0 v)(k:zg S f ys h u0 h'):zg S f xs h v h':=by
 intro C γ w vs hG r hxs
 have hs:∀ {γ:Nat->Option G} {h:Hp} {w:World},Rel C γ h w->∀ q t,S.sy q=some t->∃ g,γ q=some g/\g.T=t:=fun r q t hq=>r.sy q t (hG.sy q t hq)
 have d:∀ {z w'},Did C γ h u0 h' z w'->Did C γ h v h' z w':=fun {z w'} ⟨γ',e1,e2,e3,e4⟩=>⟨γ',e1,e2,hv γ' z (hs e4) e3,e4⟩
 rcases k C γ w vs hG r (hx.brels (hs r) hxs)with⟨z,w',k1,k2⟩|⟨k1,k2⟩
 .exact .inl ⟨z,w',k1,d k2⟩
 .exact .inr ⟨k1,k2.mono fun e w' ⟨z,hz,k2⟩=>⟨z,hz,d k2⟩⟩
theorem zG.one{q:Nat}{g:G}{t:List UInt8}(h:zG γ [.q q] t)(hg:γ q=some g):t=g.T:=by
 cases h with|q _ g' h' r=>
  cases r
  rw[hg]at h';cases h'
  rw[List.append_nil]
theorem zpI{q n c:Nat}{t:List UInt8}(hq:S.sy q=some t)(ht:dec n c=t):zjT S (.s n c) (.rp [.q q]):=by
 intro γ z hγ h
 obtain⟨g,h1,h2⟩:=hγ q t hq
 cases h with|s _ _ hc=>
  have:za1 n c=.string ⟨(g.T++[]).toArray⟩:=by rw[List.append_nil,h2,<-ht];rfl
  rw[this]
  exact .rp _ _ (.q q g h1 .nil)
theorem zA1{q n c:Nat}{t:List UInt8}(hq:S.sy q=some t)(hc:c<256^n)(ht:dec n c=t):zjT S (.rp [.q q]) (.s n c):=by
 intro γ z hγ h
 obtain⟨g,h1,h2⟩:=hγ q t hq
 cases h with|rp _ t' hr=>
  have e:=hr.one h1
  subst e
  rw[h2,<-ht]
  exact .s n c hc
theorem zpJ{q:Nat}{t:List UInt8}(hq:S.sy q=some t):zjT S (.ia 0 [q] []) (.i .i64 t.length):=by
 intro γ z hγ h
 obtain⟨g,h1,h2⟩:=hγ q t hq
 cases h with|ia _ _ _ a b l1 l2 hr=>
  cases l2
  cases l1 with|cons _ g' h' r=>
   cases r
   rw[h1]at h';cases h'
   rw[h2]
   have:(0:Int)+((t.length+0:Nat):Int)-((0:Nat):Int)=(t.length:Int):=by omega
   rw[this]
   exact .i _ _
def plainS(S:zd):BV->Bool
 | .b _=>true
 | .i _ _=>true
 | .s _ _=>true
 | .rp l=>okR S l
 | .ia _ ps ns=>and (okQ S ps) (okQ S ns)
 | _=>false
variable {γ1:Nat->Option G}
theorem zG.okR(hg:∀ q g,(S.bd q).isSome=true->γ q=some g->γ1 q=some g){l:List Ck}{t:List UInt8}(h:zG γ l t)(ho:Bm.okR S l=true):zG γ1 l t:=by
 induction h with
 | nil=>exact .nil
 | k n c hc _ ih=>
  have ho:and (Nat.blt c (Nat.pow 256 n)) (Bm.okR S _)=true:=ho
  rw[Bool.and_eq_true]at ho
  exact .k n c hc (ih ho.2)
 | q i g hi _ ih=>
  have ho:and (S.bd i).isSome (Bm.okR S _)=true:=ho
  rw[Bool.and_eq_true]at ho
  exact .q i g (hg _ _ ho.1 hi) (ih ho.2)
theorem zH.okQ(hg:∀ q g,(S.bd q).isSome=true->γ q=some g->γ1 q=some g){l:List Nat}{n:Nat}(h:zH γ l n)(ho:Bm.okQ S l=true):zH γ1 l n:=by
 induction h with
 | nil=>exact .nil
 | cons i g hi _ ih=>
  have ho:and (S.bd i).isSome (Bm.okQ S _)=true:=ho
  rw[Bool.and_eq_true]at ho
  exact .cons i g (hg _ _ ho.1 hi) (ih ho.2)
theorem zf.plainS(hg:∀ q g,(S.bd q).isSome=true->γ q=some g->γ1 q=some g){x:BV}{v:Value}(h:zf γ x v)(hp:Bm.plainS S x=true):zf γ1 x v:=by
 cases x <;> (try (cases hp;done)) <;> cases h
 .exact .b _
 .exact .i _ _
 .rename_i hc;exact .s _ _ hc
 .rename_i hr;exact .rp _ _ (hr.okR hg hp)
 .rename_i a b hr h1 h2
  have hp:and (Bm.okQ S _) (Bm.okQ S _)=true:=hp
  rw[Bool.and_eq_true]at hp
  exact .ia _ _ _ _ _ (h1.okQ hg hp.1) (h2.okQ hg hp.2) hr
theorem zm.plainS(hg:∀ q g,(S.bd q).isSome=true->γ q=some g->γ1 q=some g){l:List BV}{r:List Value}(h:zm γ l r)(hp:∀ x ∈ l,Bm.plainS S x=true):zm γ1 l r:=by
 induction l generalizing r with
 | nil=>rw[h.nil_inv];exact .nil
 | cons x l ih=>
  obtain⟨v,r',rfl,h1,h2⟩:=h.cons_inv
  exact .cons (h1.plainS hg (hp x (by simp))) (ih h2 fun y hy=>hp y (by simp[hy]))
def zd.offB(S:zd)(L:List Nat):zd:={ S with bd:=fun q=>match zaN q L with|true=>none|false=>S.bd q }
theorem zg.besideU{L:List Nat}{f:FuncId}{xs:List BV}{v:BV}{n0:Nat}(hlt:∀ q,(S.bd q).isSome=true->q<n0)(hsb:∀ q t,S.sy q=some t->(S.bd q).isSome=true)(hL:∀ q,zaN q L=true->S.sy q=some []/\∀ a b,S.bd q=some (a,b)->a=0)(hx:∀ x ∈ xs,Bm.plainS (S.offB L) x=true)(hv:Bm.plainS (S.offB L) v=true){h1:Hp}(k:zg S f xs ⟨n0,.e⟩ v h1)(h:Hp):zg (S.off L) f xs h v h:=by
 intro C γ w vs hG r hxs
 have hget:∀ id,Hp.get ⟨n0,.e⟩ id=.x:=fun id=>zqG _
 let γ0:Nat->Option G:=fun q=>if(S.bd q).isSome=true then(if zaN q L=true then some ⟨0,0,0,none,[]⟩ else γ q) else none
 have hoB:∀ {q:Nat},((S.offB L).bd q).isSome=true->(S.bd q).isSome=true/\¬ zaN q L=true:=fun {q} hb=>by
  have hb:(match zaN q L with|true=>none|false=>S.bd q).isSome=true:=hb
  split at hb
  .cases hb
  .rename_i hm;exact⟨hb,by rw[hm];simp⟩
 have hγ:∀ q g,((S.offB L).bd q).isSome=true->γ q=some g->γ0 q=some g:=fun q g hb hg=>by
  obtain⟨h1,h2⟩:=hoB hb
  show(if _ then _ else _)=_;rw[if_pos h1,if_neg h2];exact hg
 let C0:Ctx:=⟨fun b=>w.heap[b]?,C.os,C.tape,C.output,fun q=>if(S.bd q).isSome=true then(if zaN q L=true then some [] else C.sy q) else none⟩
 have r0:Rel C0 γ0 ⟨n0,.e⟩ w:=by
  refine⟨fun id=>by rw[hget];trivial,fun i j g1 g2 hi=>absurd (hget i) hi,fun i g hi=>absurd (hget i) hi,fun q hq=>?_,fun b o hb=>hb,r.os,r.tape,r.output,fun b hb=>?_,fun q t hq=>?_⟩
  .show (if _ then _ else _)=_
   have hq:n0<=q:=hq
   rw[if_neg (fun hb=>by have:=hlt q hb;omega)]
  .exact Array.getElem?_eq_none hb
  .have hq:(if(S.bd q).isSome=true then(if zaN q L=true then some [] else C.sy q) else none)=some t:=hq
   split at hq
   .rename_i hb
    split at hq
    .rename_i hm
     cases hq
     exact⟨_,by show(if _ then _ else _)=_;rw[if_pos hb,if_pos hm],rfl⟩
    .rename_i hm
     obtain⟨g,h1,h2⟩:=r.sy q t hq
     exact⟨g,by show(if _ then _ else _)=_;rw[if_pos hb,if_neg hm];exact h1,h2⟩
   .cases hq
 have hG0:yC S C0:=by
  refine⟨fun g l hg=>?_,fun q t hq=>?_,fun q a b hq=>?_⟩
  .obtain ⟨e,m,h1⟩:=hG.gt g l hg
   exact⟨e,m,r.fr _ _ h1⟩
  .show (if _ then _ else _)=_
   rw[if_pos (hsb q t hq)]
   by_cases hm:zaN q L=true
   .rw [if_pos hm,<-(hL q hm).1,hq]
   .rw [if_neg hm]
    refine hG.sy q t ?_
    show(match zaN q L with|true=>none|false=>S.sy q)=_
    cases h0:zaN q L with
    | true=>exact absurd h0 hm
    | false=>exact hq
  .by_cases hm:zaN q L=true
   .refine ⟨[],?_,by rw[(hL q hm).2 a b hq];exact Nat.le_refl _,Nat.zero_le _⟩
    show(if _ then _ else _)=_
    rw[if_pos (by rw[hq];rfl),if_pos hm]
   .obtain ⟨t,h1,h2⟩:=hG.bd q a b hq
    refine⟨t,?_,h2⟩
    show(if _ then _ else _)=_
    rw[if_pos (by rw[hq];rfl),if_neg hm];exact h1
 have d:∀ {z w'},Did C0 γ0 ⟨n0,.e⟩ v h1 z w'->Did C γ h v h z w':=fun {z w'} d=>by
  obtain⟨γ',e1,e2,e3,e4⟩:=d
  have hb:∀ b o,w.heap[b]?=some o->w'.heap[b]?=some o:=fun b o hb=>e4.fr b o hb
  have hsz:w.heap.size<=w'.heap.size:=by
   rcases Nat.lt_or_ge w'.heap.size w.heap.size with hl|hl
   .exfalso
    have h1:w.heap[w'.heap.size]?=some w.heap[w'.heap.size]:=Array.getElem?_eq_getElem hl
    have:=hb _ _ h1
    rw[Array.getElem?_eq_none (Nat.le_refl _)]at this
    cases this
   .exact hl
  have back:∀ q g,((S.offB L).bd q).isSome=true->γ' q=some g->γ q=some g:=fun q g hbd hg=>by
   obtain⟨b1,b2⟩:=hoB hbd
   rw[e1 q (hlt q b1)]at hg
   have hg:(if(S.bd q).isSome=true then(if zaN q L=true then some ⟨0,0,0,none,[]⟩ else γ q) else none)=some g:=hg
   rwa [if_pos b1,if_neg b2]at hg
  refine⟨γ,Ext.refl _ _,Nat.le_refl _,e3.plainS back hv,?_⟩
  refine⟨fun id=>?_,r.sep,fun id g hx hg=>⟨Nat.lt_of_lt_of_le (r.lo id g hx hg).1 hsz,(r.lo id g hx hg).2⟩,r.us,fun b o hbo=>hb b o (r.fr b o hbo),e4.os,e4.tape,e4.output,fun b hbb=>r.up b (Nat.le_trans hsz hbb),r.sy⟩
  cases hx:h.get id with
  | x=>trivial
  | _=>
   rw[<-hx]
   refine(r.ob id).keep (GLe.refl γ) fun g hg=>?_
   have hlt:=(r.lo id g (by rw[hx];simp) hg).1
   have h1:w.heap[g.b]?=some w.heap[g.b]:=Array.getElem?_eq_getElem hlt
   rw[h1];exact hb _ _ h1
 rcases k C0 γ0 w vs hG0 r0 (hxs.plainS hγ hx)with⟨z,w',k1,k2⟩|⟨k1,k2⟩
 .exact .inl ⟨z,w',k1,d k2⟩
 .exact .inr ⟨k1,k2.mono fun e w' ⟨z,hz,k2⟩=>⟨z,hz,d k2⟩⟩
theorem zg.sharp{S':zd}(hP:S'.P=S.P)(hG:∀ C,yC S C->yC S' C){f:FuncId}{xs:List BV}{v:BV}(k:zg S' f xs h v h'):zg S f xs h v h':=by
 intro C γ w vs hg r hx
 have:=k C γ w vs (hG C hg) r hx
 rwa [hP]at this
end Go.Bm
/-! From a contract on plain data to a call. -/
namespace Go.Bm
open Go Go.RowKit
variable {S:zd}{γ γ':Nat->Option G}{C:Ctx}{h h':Hp}{w w':World}
abbrev Nam(S:zd)(γ:Nat->Option G):Prop:=∀ q t,S.sy q=some t->∃ g,γ q=some g/\g.T=t
theorem zg.of_FnP{f:FuncId}{xs:List BV}{A:List Am.AV}{r:Am.AV}{v:BV}(hc:zR S.P f=true)(hk:Am.FnP S.P f A r)
 (hx:∀ γ vs,Nam S γ->zm γ xs vs->Am.ARels Am.γ0 (fun _ _=>none) A vs) (hv:∀ γ M z,Nam S γ->Am.ARel Am.γ0 M r z->zf γ v z) (h:Hp) (hT:Am.gtabs=[]:=by rfl) (hI:Am.gints=[]:=by rfl):zg S f xs h v h:=by
 intro C γ w vs hG r hxs
 have hs:Nam S γ:=fun q t hq=>r.sy q t (hG.sy q t hq)
 have hW:Am.WOk (fun _ _=>none) w:=⟨⟨fun _ _ _ h=>(by cases h),fun g hg=>by rw[hI]at hg;cases hg⟩,fun x hx=>by rw[hT]at hx;cases hx⟩
 refine .inr ⟨ym hc _ _,(hk _ w vs hW (hx γ vs hs hxs)).mono fun e w' ⟨z,M',he,_,_,_,hz,hb⟩=>⟨z,he,γ,Ext.refl _ _,Nat.le_refl _,hv γ M' z hs hz,?_⟩⟩
 obtain⟨b1,b2,b3,b4,b5⟩:=hb
 refine⟨fun id=>?_,r.sep,fun id g hx hg=>⟨Nat.lt_of_lt_of_le (r.lo id g hx hg).1 b4,(r.lo id g hx hg).2⟩,r.us,fun b o hbo=>?_,b1.trans r.os,b2.trans r.tape,b3.trans r.output,fun b hbb=>r.up b (Nat.le_trans b4 hbb),r.sy⟩
 .cases hx:h.get id with
  | x=>trivial
  | _=>
   rw[<-hx]
   refine(r.ob id).keep (GLe.refl γ) fun g hg=>?_
   exact b5 _ (r.lo id g (by rw[hx];simp) hg).1
 .have h1:=r.fr b o hbo
  rw[b5 b (Array.getElem?_eq_some_iff.1 h1).1];exact h1
theorem zAi{q:Nat}{t:List UInt8}(hq:S.sy q=some t)(hl:t.length<=maxLen){M:Am.Mem}(hs:Nam S γ){z:Value}(h:zf γ (.rp [.q q]) z):Am.ARel Am.γ0 M (.p (.str t)) z:=by
 obtain⟨g,h1,h2⟩:=hs q t hq
 cases h with|rp _ t' hr=>
  have e:=hr.one h1
  subst e
  rw[h2]
  exact .p _ _ (.str _ hl)
theorem zor{q:Nat}{t:List UInt8}(hq:S.sy q=some t){M:Am.Mem}(hs:Nam S γ){z:Value}(h:Am.ARel Am.γ0 M (.p (.str t)) z):zf γ (.rp [.q q]) z:=by
 obtain⟨g,h1,h2⟩:=hs q t hq
 cases h with|p _ _ hp=>
  cases hp
  have:(Value.string ⟨t.toArray⟩)=.string ⟨(g.T++[]).toArray⟩:=by rw[List.append_nil,h2]
  rw[this]
  exact .rp _ _ (.q q g h1 .nil)
end Go.Bm
/-! Calls that are known, beside whatever else. -/
namespace Go.Bm
open Go Go.RowKit
variable {S:zd}{γ γ':Nat->Option G}{C:Ctx}{h h' H:Hp}{w w':World}
def fdO(i:Nat):List (Nat×Ob)->Option Ob
 | []=>none
 | x::l=>if i=x.1 then some x.2 else fdO i l
theorem zsD(i:Nat):∀ l,lkO i l=(fdO i l).getD .x
 | []=>rfl
 | x::l=>by
  show(match Nat.beq i x.1 with|true=>x.2|false=>lkO i l)=(if i=x.1 then some x.2 else fdO i l).getD .x
  by_cases e:i=x.1
  .rw [if_pos e,e,Nat.beq_refl];rfl
  .rw [if_neg e,zdI e];exact zsD i l
theorem zpY(n:Nat)(t:Tr Ob)(i:Nat):∀ l,Hp.get ⟨n,zcA t l⟩ i=(fdO i l).getD (Hp.get ⟨n,t⟩ i)
 | []=>rfl
 | x::l=>by
  have:=Hp.get_set ⟨n,zcA t l⟩ x.1 i x.2
  show Hp.get ⟨n,sO (pa x.1) (zcA t l) x.2⟩ i=(if i=x.1 then some x.2 else fdO i l).getD _
  rw[show(⟨n,sO (pa x.1) (zcA t l) x.2⟩:Hp)=Hp.set ⟨n,zcA t l⟩ x.1 x.2 from rfl,this,zpY n t i l]
  by_cases e:i=x.1
  .rw [if_pos e,if_pos e];rfl
  .rw [if_neg e,if_neg e]
theorem zrj(n:Nat)(t:Tr Ob)(i:Nat):∀ l,Hp.get ⟨n,zmA t l⟩ i=if(fdO i l).isSome=true then .x else Hp.get ⟨n,t⟩ i
 | []=>rfl
 | x::l=>by
  have:=Hp.get_set ⟨n,zmA t l⟩ x.1 i .x
  show Hp.get ⟨n,sO (pa x.1) (zmA t l) .x⟩ i=if(if i=x.1 then some x.2 else fdO i l).isSome=true then .x else _
  rw[show(⟨n,sO (pa x.1) (zmA t l) .x⟩:Hp)=Hp.set ⟨n,zmA t l⟩ x.1 .x from rfl,this,zrj n t i l]
  by_cases e:i=x.1
  .rw [if_pos e,if_pos e];rfl
  .rw [if_neg e,if_neg e]
theorem ziG:∀ {l:List (Nat×Ob)},zy1 h l=true->∀ {i:Nat} {o:Ob},fdO i l=some o->h.get i=o
 | x::l,hb,i,o,hf=>by
  unfold zy1 at hb
  rw[Bool.and_eq_true]at hb
  unfold fdO at hf
  split at hf
  .rename_i e;cases hf;rw[e];exact(znz hb.1).symm
  .exact ziG hb.2 hf
def zug(n:Nat)(l:List (Nat×Ob)):List (Nat×Ob)->Bool
 | []=>true
 | x::r=>and (or (Nat.ble n x.1) (fdO x.1 l).isSome) (zug n l r)
theorem zk5{n:Nat}{l:List (Nat×Ob)}:∀ {r:List (Nat×Ob)},zug n l r=true->∀ {i:Nat} {o:Ob},fdO i r=some o->n<=i\/(fdO i l).isSome=true
 | x::r,h,i,o,hf=>by
  unfold zug at h
  rw[Bool.and_eq_true,Bool.or_eq_true]at h
  unfold fdO at hf
  split at hf
  .rename_i e;rw[e];exact h.1.imp Nat.le_of_ble_eq_true id
  .exact zk5 h.2 hf
def ztG(S:zd)(f:FuncId)(e:Fe):Prop:=zug e.n e.l e.l'=true/\zg S f e.xs ⟨e.n,zbK e.l⟩ e.v ⟨e.n',zbK e.l'⟩
theorem zg.frame{f:FuncId}{e:Fe}(k:ztG S f e)(hn:e.n=H.nx)(hl:zy1 H e.l=true):zg S f e.xs H e.v ⟨e.n',zcA (zmA H.t e.l) e.l'⟩:=by
 intro C γ w vs hG r hx
 have g0:∀ id,Hp.get ⟨e.n,zbK e.l⟩ id=(fdO id e.l).getD .x:=fun id=>by rw[zc0,zsD]
 have g1:∀ id,Hp.get ⟨e.n',zbK e.l'⟩ id=(fdO id e.l').getD .x:=fun id=>by rw[zc0,zsD]
 have gH:∀ id,Hp.get ⟨e.n',zcA (zmA H.t e.l) e.l'⟩ id=(fdO id e.l').getD (if(fdO id e.l).isSome=true then .x else H.get id):=fun id=>by
  rw[zpY,zrj];rfl
 have hle:∀ id,Hp.get ⟨e.n,zbK e.l⟩ id=.x\/ObE (H.get id) (Hp.get ⟨e.n,zbK e.l⟩ id):=fun id=>by
  rw[g0]
  cases hf:fdO id e.l with
  | none=>left;rfl
  | some o=>right;rw[ziG hl hf];exact ObE.refl _
 have tid:=r.tidy
 have d:∀ {z w'},Did (zha γ ⟨e.n,zbK e.l⟩ H w C) γ ⟨e.n,zbK e.l⟩ e.v ⟨e.n',zbK e.l'⟩ z w'->Did C γ H e.v ⟨e.n',zcA (zmA H.t e.l) e.l'⟩ z w':=fun {z w'} ⟨γ',e1,e2,e3,e4⟩=>by
  refine⟨γ',fun id hi=>e1 id (by show id<e.n;omega),by show H.nx<=e.n';rw[<-hn];exact e2,e3,r.join hle (by show H.nx<=e.n;omega) e4 e1 e2 rfl fun id=>?_⟩
  rw[gH,g0,g1]
  cases h1:fdO id e.l with
  | some o=>
   right
   have ho:=ziG hl h1
   refine⟨by simp,fun⟨a,b⟩=>a (ho.trans b)⟩
  | none=>
   cases h2:fdO id e.l' with
   | some o=>
    right
    refine⟨rfl,fun⟨a,_⟩=>a ?_⟩
    rcases zk5 k.1 h2 with h3|h3
    .exact tid id (by omega)
    .rw [h1]at h3;cases h3
   | none=>
    cases h3:H.get id with
    | x=>right;simp
    | _=>left;simp
 rcases k.2 _ γ w vs (zuD hG r) (r.split hle (by show H.nx<=e.n;omega)) hx with⟨z,w',k1,k2⟩|⟨k1,k2⟩
 .exact .inl ⟨z,w',k1,d k2⟩
 .exact .inr ⟨k1,k2.mono fun e w' ⟨z,hz,k2⟩=>⟨z,hz,d k2⟩⟩
theorem zqH{f:FuncId}{xs:List BV}{v:BV}:∀ {l:List Fe},(∀ e ∈ l,ztG S f e)->zuG h xs l=some (v,h')->zg S f xs h v h'
 | [],_,hv=>by cases hv
 | e::l,hl,hv=>by
  unfold zuG at hv
  split at hv
  .rename_i hb
   rw[Bool.and_eq_true,Bool.and_eq_true]at hb
   cases hv
   rw[<-ziO hb.1.2]
   exact zg.frame (hl e (by simp)) (Nat.eq_of_beq_eq_true hb.1.1) hb.2
  .exact zqH (fun e he=>hl e (by simp[he])) hv
theorem zfZ{f:FuncId}{l:List Fe}(hl:∀ e ∈ l,ztG S f e):zcp S f (.ftab l):=by
 intro xs h v h' hv
 refine zqH hl ?_
 unfold zgj at hv
 split at hv <;> (try (rename_i heq;cases heq;done)) <;> first|exact hv|skip
 all_goals (rename_i heq;cases heq;exact hv)
end Go.Bm
/-! What a function can come to, reckoned over trees. -/
namespace Go.Bm
open Go
noncomputable section
def jn{α:Type}:Option (Option α)->Option α
 | some (some x)=>some x
 | _=>none
def zwx(lead:Nat->List Nat):Nat->List Nat->Tr (Option Unit)->List Nat->Option (List Nat)
 | 0,_,_,_=>none
 | _+1,[],_,seen=>some seen.reverse
 | n+1,f::todo,S,seen=>match gX (pa f) S with
  | some _=>zwx lead n todo S seen
  | none=>zwx lead n (lead f++todo) (sX (pa f) S (some ())) (f::seen)
def zqw(P:Program)(FA:Tr (Option Func))(f:Nat):List Nat:=match gX (pa f) FA with|some fn=>P.leadsTo fn|none=>[]
def zDi(FA:Tr (Option Func))(g:Nat):Option String:=match gX (pa g) FA with
 | some fn=>if fn.ours||fn.body.isNone||fn.name== "runtime.NumGoroutine" then some fn.name else none
 | none=>none
def zvP{α β:Type}(f:α->Option β):List α->List β
 | []=>[]
 | x::l=>match f x with|some y=>y::zvP f l|none=>zvP f l
def unfT(FA:Tr (Option Func))(g:Nat):Bool:=match gX (pa g) FA with
 | some fn=>(match fn.body with|some c=>c.unfollowed|none=>entryCalls fn)
 | none=>false
def zy4(FA:Tr (Option Func))(g:Nat):List Nat:=match gX (pa g) FA with
 | some fn=>fn.body.elim [] Code.globalsNamed
 | none=>[]
def zE1(FA:Tr (Option Func))(g:Nat):Option String:=match gX (pa g) FA with
 | some fn=>if fn.body.isNone then entryReads.lookup fn.name else none
 | none=>none
def zuE(FA:Tr (Option Func))(g:Nat):Bool:=match gX (pa g) FA with
 | some fn=>fn.goes
 | none=>false
end
theorem zto{α:Type}:∀ (l:List (Option α)) (i:Nat) (t:Tr (Option α)),(∀ j,i<=j->gX (pa j) t=none)->∀ j,gX (pa j) (zgV l i t)=if i<=j then jn (l[j-i]?) else gX (pa j) t
 | [],i,t,ht,j=>by
  show gX (pa j) t=_
  split
  .rename_i h;rw[ht j h];simp[jn]
  .rfl
 | none::l,i,t,ht,j=>by
  show gX (pa j) (zgV l (i+1) t)=_
  rw[zto l (i+1) t (fun j hj=>ht j (by omega)) j]
  by_cases h:i+1<=j
  .rw [if_pos h,if_pos (by omega),show j-i=(j-(i+1))+1 by omega,List.getElem?_cons_succ]
  .rw [if_neg h]
   by_cases h2:i<=j
   .rw [if_pos h2,show j-i=0 by omega,ht j h2];rfl
   .rw [if_neg h2]
 | some y::l,i,t,ht,j=>by
  have hne:∀ k,k≠i->gX (pa k) (sX (pa i) t (some y))=gX (pa k) t:=fun k hk=>zlv _ _ _ _ fun e=>hk (zk0 e)
  show gX (pa j) (zgV l (i+1) (sX (pa i) t (some y)))=_
  rw[zto l (i+1) _ (fun j hj=>by rw[hne j (by omega)];exact ht j (by omega)) j]
  by_cases h:i+1<=j
  .rw [if_pos h,if_pos (by omega),show j-i=(j-(i+1))+1 by omega,List.getElem?_cons_succ]
  .rw [if_neg h]
   by_cases h2:i<=j
   .have e:j=i:=by omega
    subst e
    rw[if_pos h2,zy6,Nat.sub_self];rfl
   .rw [if_neg h2,hne j (by omega)]
theorem zpE{α:Type}{l:List α}{T:Tr (Option α)}(hT:T=zgV (l.map some) 0 .e)(j:Nat):gX (pa j) T=l[j]?:=by
 rw[hT,zto _ 0 .e (fun _ _=>zv6 _),if_pos (Nat.zero_le _),Nat.sub_zero,List.getElem?_map]
 cases l[j]? <;> rfl
variable {P:Program}{FA:Tr (Option Func)}
def zmh(P:Program)(FA:Tr (Option Func)):Prop:=∀ g:Nat,P.funcs[g]?=gX (pa g) FA
theorem allF(h:FA=zgV (P.funcs.toList.map some) 0 .e):zmh P FA:=fun g=>by
 rw[zpE h];simp
theorem zBP(hF:zmh P FA)(f:Nat):(P.funcs[f]?).elim [] P.leadsTo=zqw P FA f:=by
 unfold zqw
 rw[hF f]
 cases gX (pa f) FA <;> rfl
theorem zE7(hF:zmh P FA):∀ (m:Nat) (todo:List Nat) (S:Tr (Option Unit)) (seen L:List Nat),zwx (zqw P FA) m todo S seen=some L->(∀ f,(gX (pa f) S).isSome=seen.contains f)->∀ n,m<=n->P.closureVia n todo seen=L:=by
 intro m
 induction m with
 | zero=>intro todo S seen L h;cases h
 | succ m ih=>
  intro todo S seen L h hS n hn
  obtain⟨n,rfl⟩:∃ k,n=k+1:=⟨n-1,by omega⟩
  cases todo with
  | nil=>
   have h:=Option.some.inj (show some seen.reverse=some L from h)
   rw[<-h];rfl
  | cons f todo=>
   unfold zwx at h
   unfold Program.closureVia
   have hf:=hS f
   split at h
   .rename_i u hu
    rw[hu]at hf
    have hf:seen.contains f=true:=hf.symm
    rw[if_pos hf]
    exact ih todo S seen L h hS n (by omega)
   .rename_i hu
    rw[hu]at hf
    have hf:seen.contains f=false:=hf.symm
    rw[if_neg (by rw[hf];exact Bool.false_ne_true),zBP hF]
    refine ih _ _ _ L h (fun g=>?_) n (by omega)
    by_cases e:g=f
    .subst e;rw[zy6];simp
    .rw [zlv _ _ _ _ (fun h=>e (zk0 h)),hS g]
     have:(g==f)=false:=by simpa using e
     rw[List.contains_cons,this,Bool.false_or]
def zy9(P:Program)(m:Nat):Bool:=Nat.ble m (1+(P.funcs.toList.map fun g=>(P.leadsTo g).length+1).sum)
theorem zth(hF:zmh P FA){f m:Nat}{L:List Nat}(h:zwx (zqw P FA) m [f] .e []=some L)(hm:zy9 P m=true):P.closure f=L:=
 zE7 hF m [f] .e [] L h (fun g=>by rw[zv6];rfl) _ (Nat.le_of_ble_eq_true hm)
theorem zoz{α β:Type}(f:α->Option β):∀ l:List α,l.filterMap f=zvP f l
 | []=>rfl
 | x::l=>by
  unfold zvP
  rw[List.filterMap_cons,zoz f l]
  cases f x <;> rfl
theorem zx8(hF:zmh P FA){f:Nat}{L:List Nat}(h:P.closure f=L):P.inPlace f=zvP (zDi FA) L:=by
 unfold Program.inPlace
 rw[h,<-zoz]
 congr 1
 funext g
 rw[hF g]
 unfold zDi
 cases gX (pa g) FA <;> rfl
theorem zDP(hF:zmh P FA){f:Nat}{L:List Nat}(h:P.closure f=L):P.unfollowed f=L.any (unfT FA):=by
 unfold Program.unfollowed
 rw[h]
 congr 1
 funext g
 rw[hF g]
 unfold unfT
 cases gX (pa g) FA <;> rfl
theorem zAR(hF:zmh P FA){f:Nat}{L:List Nat}(h:P.closure f=L):P.varsNamed f=(((L.flatMap (zy4 FA)).eraseDups).filterMap (fun g=>(P.globals[g]?).map (·.name))++zvP (zE1 FA) L).eraseDups:=by
 unfold Program.varsNamed
 rw[h,<-zoz]
 have e1:(fun g=>((P.funcs[g]?).bind (·.body)).elim [] Code.globalsNamed)=zy4 FA:=by
  funext g
  rw[hF g]
  unfold zy4
  cases gX (pa g) FA <;> rfl
 have e2:(fun g=>(P.funcs[g]?).bind fun fn=>if fn.body.isNone then entryReads.lookup fn.name else none)=zE1 FA:=by
  funext g
  rw[hF g]
  unfold zE1
  cases gX (pa g) FA <;> rfl
 rw[e1,e2]
theorem zB4(hF:zmh P FA){f:Nat}{L:List Nat}(h:P.closure f=L):P.goes f=(L.any (zuE FA)||(P.unfollowed f&&P.funcs.toList.any Func.goes)):=by
 unfold Program.goes
 rw[h]
 have e:(fun g=>(P.funcs[g]?).any Func.goes)=zuE FA:=by
  funext g
  rw[hF g]
  unfold zuE
  cases gX (pa g) FA <;> rfl
 rw[e]
 congr 2
 simp
theorem zv1(hF:zmh P FA){f:Nat}{L:List Nat}(h:P.closure f=L)(h0:P.funcs.toList.any Func.goes=false):P.goes f=false:=by
 rw[zB4 hF h,h0,Bool.and_false,Bool.or_false]
 rw[List.any_eq_false]
 intro g _
 unfold zuE
 cases hg:gX (pa g) FA with
 | none=>simp
 | some fn=>
  rw[<-hF g]at hg
  have hm:fn ∈ P.funcs.toList:=by
   rw[<-Array.getElem?_toList]at hg
   exact List.mem_of_getElem? hg
  exact List.any_eq_false.1 h0 fn hm
end Go.Bm
/-! The types' lay-out, reckoned over trees. -/
namespace Go.Bm
open Go
noncomputable section
def cD(S:zd)(t:Nat):Nat:=match sz S t with|some k=>k|none=>0
def zen(S:zd)(n t:Nat):Bool:=and (Nat.blt t n) (match und S t with|some d=>Go.kindOk (some d)|none=>false)
def zxA(S:zd):List Field->Nat
 | []=>0
 | f::l=>Nat.add (cD S f.type) (zxA S l)
def zyq(S:zd):Nat->List Field->Bool
 | _,[]=>true
 | a,f::l=>and (Nat.beq f.offset a) (zyq S (Nat.add a (cD S f.type)) l)
def zhU(S:zd)(n:Nat):List Field->Bool
 | []=>true
 | f::l=>and (zen S n f.type) (zhU S n l)
def zHr(S:zd)(n t:Nat):TypeDesc->Bool
 | .struct fs=>and (zhU S n fs.toList) (and (Nat.beq (cD S t) (zxA S fs.toList)) (zyq S 0 fs.toList))
 | .array m e=>and (zen S n e) (Nat.beq (cD S t) (Nat.mul m (cD S e)))
 | .pointer e=>and (zen S n e) (Nat.beq (cD S t) 1)
 | .slice e=>and (zen S n e) (Nat.beq (cD S t) 1)
 | _=>Nat.beq (cD S t) 1
def zBn(S:zd)(n t:Nat):Bool:=match und S t with
 | some d=>match Go.kindOk (some d)with
  | true=>zHr S n t d
  | false=>true
 | none=>false
def zp0(S:zd)(n:Nat):Nat->Nat->Bool
 | 0,_=>true
 | k+1,t=>and (zBn S n t) (zp0 S n k (Nat.succ t))
end
variable {S:zd}{n:Nat}
theorem zds(hT:TyOk S)(hn:S.P.types.size=n){t:Nat}(h:zen S n t=true):isVar S.P t=true/\t<n:=by
 unfold zen at h
 rw[Bool.and_eq_true]at h
 have hl:=zS h.1
 refine⟨?_,hl⟩
 unfold isVar
 rw[Bool.and_eq_true]
 refine⟨by rw[hn];simpa using hl,?_⟩
 have h2:=h.2
 split at h2
 .rename_i d hd
  rw[zB hT hd];exact h2
 .cases h2
theorem zhT:∀ {l:List Field},zhU S n l=true->∀ f ∈ l,zen S n f.type=true
 | [],_,f,hf=>by cases hf
 | g::l,h,f,hf=>by
  unfold zhU at h
  rw[Bool.and_eq_true]at h
  rcases List.mem_cons.1 hf with rfl|hf
  .exact h.1
  .exact zhT h.2 f hf
theorem ztW(hc:∀ t,t<n->S.P.cellsOf t=cD S t):∀ {l:List Field},(∀ f ∈ l,f.type<n)->zxA S l=(l.map fun f=>S.P.cellsOf f.type).sum
 | [],_=>rfl
 | f::l,h=>by
  unfold zxA
  rw[List.map_cons,List.sum_cons,hc _ (h f (by simp)),ztW hc fun g hg=>h g (by simp[hg])]
  rfl
theorem zm8(hc:∀ t,t<n->S.P.cellsOf t=cD S t):∀ {l:List Field} {a:Nat},(∀ f ∈ l,f.type<n)->zyq S a l=true->∀ (j:Nat) f,l[j]?=some f->f.offset=a+((l.take j).map fun f=>S.P.cellsOf f.type).sum
 | [],_,_,_,j,f,hj=>by cases hj
 | g::l,a,h,ho,j,f,hj=>by
  unfold zyq at ho
  rw[Bool.and_eq_true]at ho
  cases j with
  | zero=>simp at hj;subst hj;simpa using Nat.eq_of_beq_eq_true ho.1
  | succ j=>
   have:=zm8 hc (fun f hf=>h f (by simp[hf])) ho.2 j f (by simpa using hj)
   rw[this,List.take_succ_cons,List.map_cons,List.sum_cons,hc _ (h g (by simp))]
   show a+cD S g.type+_=_
   omega
theorem zvz(hT:TyOk S)(hn:S.P.types.size=n)(hc:∀ t,t<n->S.P.cellsOf t=cD S t){t:Nat}(ht:t<n)(h:zBn S n t=true):rowFine S.P t=true:=by
 unfold zBn at h
 split at h
 .rename_i d hd
  have hu:=zB hT hd
  unfold rowFine
  rw[hu]
  cases hk:Go.kindOk (some d)with
  | false=>
   have:isVar S.P t=false:=by unfold isVar;rw[hu,hk,Bool.and_false]
   rw[this];rfl
  | true=>
   rw[hk]at h
   rw[Bool.or_eq_true]
   right
   have one:∀ {e:Nat},and (zen S n e) (Nat.beq (cD S t) 1)=true->(isVar S.P e&&S.P.cellsOf t==1)=true:=fun {e} h=>by
    rw[Bool.and_eq_true]at h
    rw[(zds hT hn h.1).1,hc t ht,Nat.eq_of_beq_eq_true h.2];rfl
   cases d with
   | struct fs=>
    have h:and (zhU S n fs.toList) (and (Nat.beq (cD S t) (zxA S fs.toList)) (zyq S 0 fs.toList))=true:=h
    rw[Bool.and_eq_true,Bool.and_eq_true]at h
    have hv:=zhT h.1
    have hl:∀ f ∈ fs.toList,f.type<n:=fun f hf=>(zds hT hn (hv f hf)).2
    show(fs.toList.all (fun f=>isVar S.P f.type)&&S.P.cellsOf t==(fs.toList.map fun f=>S.P.cellsOf f.type).sum&&_)=true
    rw[Bool.and_eq_true,Bool.and_eq_true]
    refine⟨⟨List.all_eq_true.2 fun f hf=>(zds hT hn (hv f hf)).1,?_⟩,?_⟩
    .rw [hc t ht,Nat.eq_of_beq_eq_true h.2.1,ztW hc hl];simp
    .rw [List.all_eq_true]
     intro j _
     split
     .rename_i f hf
      have:=zm8 hc hl h.2.2 j f hf
      simpa using this
     .rfl
   | array m e=>
    have h:and (zen S n e) (Nat.beq (cD S t) (Nat.mul m (cD S e)))=true:=h
    rw[Bool.and_eq_true]at h
    have hv:=zds hT hn h.1
    show(isVar S.P e&&S.P.cellsOf t==m*S.P.cellsOf e)=true
    rw[hv.1,hc t ht,hc e hv.2,Nat.eq_of_beq_eq_true h.2]
    simp
   | pointer e=>exact one h
   | slice e=>exact one h
   | _=>
    first
     | (cases hk;done)
     | (have h : Nat.beq (cD S t) 1 = true := h
        show(S.P.cellsOf t==1)=true
        rw[hc t ht,Nat.eq_of_beq_eq_true h];rfl)
 .cases h
theorem zkM:∀ (k t:Nat),zp0 S n k t=true->∀ u,t<=u->u<t+k->zBn S n u=true
 | 0,t,_,u,h1,h2=>by omega
 | k+1,t,h,u,h1,h2=>by
  unfold zp0 at h
  rw[Bool.and_eq_true]at h
  rcases Nat.lt_or_ge t u with hu|hu
  .exact zkM k (t+1) h.2 u hu (by omega)
  .have:u=t:=by omega
   rw[this];exact h.1
theorem zBR(hT:TyOk S)(hn:S.P.types.size=n)(hc:∀ t,t<n->S.P.cellsOf t=cD S t)(hr:zp0 S n n 0=true)(hg:(S.P.globals.toList.all fun g=>Nat.blt g.type n)=true)(hf:(S.P.funcs.toList.all fun f=>f.params.toList.all fun t=>Nat.blt t n)=true):laidOutB S.P=true:=by
 unfold laidOutB
 rw[Bool.and_eq_true,Bool.and_eq_true]
 refine⟨⟨?_,?_⟩,?_⟩
 .rw [List.all_eq_true]
  intro t ht
  have ht:t<n:=by rw[List.mem_range,hn]at ht;exact ht
  exact zvz hT hn hc ht (zkM n 0 hr t (Nat.zero_le _) (by omega))
 .rw [hn,<-Array.all_toList,List.all_eq_true]
  intro g hgm
  have:=zS (List.all_eq_true.1 hg g hgm)
  simpa using this
 .rw [hn,<-Array.all_toList,List.all_eq_true]
  intro f hfm
  have:=List.all_eq_true.1 hf f hfm
  rw[<-Array.all_toList,List.all_eq_true]
  intro t ht
  have:=zS (List.all_eq_true.1 this t ht)
  simpa using this
end Go.Bm
/-! Facts on all functions and all types, looked up in lists and trees. -/
namespace Go.Bm
open Go
noncomputable section
def zla(FA:Tr (Option Func))(n:Nat)(name:String):List Nat:=(List.range n).filter fun i=>(gX (pa i) FA).any (·.name==name)
def zqp(S:zd)(n:Nat):Nat->Nat->Bool
 | 0,_=>true
 | k+1,t=>and (match und S t with|some (.map _ e)=>Nat.blt e n|some _=>true|none=>false) (zqp S n k (Nat.succ t))
def zqz(S:zd):Nat->Nat->Bool
 | 0,_=>true
 | k+1,t=>and (match und S t with
  | some (.map q _)=>(match und S q with|some (.array _ _)=>false|some (.struct _)=>false|some _=>true|none=>false)
  | some _=>true
  | none=>false) (zqz S k (Nat.succ t))
end
theorem zqj{P:Program}{FA:Tr (Option Func)}(hF:zmh P FA){n i:Nat}{name:String}(hn:P.funcs.size=n)(h:zla FA n name=[i]):P.funcNamed name=some i:=by
 unfold Program.funcNamed
 have e:((List.range P.funcs.size).filter fun i=>(P.funcs[i]?).any (·.name==name))=zla FA n name:=by
  unfold zla
  rw[hn]
  congr 1
  funext i
  rw[hF i]
 rw[e,h]
theorem zvE{α:Type}(p:α->Bool):∀ (l:List α),((List.range l.length).any fun g=>(l[g]?).any p)=l.any p:=by
 intro l
 rw[Bool.eq_iff_iff,List.any_eq_true,List.any_eq_true]
 constructor
 .rintro ⟨g,_,hg⟩
  cases hx:l[g]? with
  | none=>rw[hx]at hg;cases hg
  | some x=>rw[hx]at hg;exact⟨x,List.mem_of_getElem? hx,hg⟩
 .rintro ⟨x,hx,hp⟩
  obtain⟨g,hg⟩:=List.getElem?_of_mem hx
  refine⟨g,?_,by rw[hg];exact hp⟩
  rw[List.mem_range]
  exact(List.getElem?_eq_some_iff.1 hg).1
theorem zh9(P:Program)(word:String):P.worded word=P.funcs.toList.any fun fn=>fn.body.isNone&&fn.name==word:=by
 unfold Program.worded
 rw[Array.any_toList]
theorem zy0(P:Program):P.stopsHeard=P.funcs.toList.all fun fn=>(Stop.rowOf fn).isNone||!fn.norace:=by
 unfold Program.stopsHeard
 rw[Array.all_toList]
theorem zyJ(P:Program):P.laysLater=P.funcs.toList.any fun fn=>fn.body.isNone&&(fn.name== "runtime.SetFinalizer"||fn.name== "runtime.AddCleanup"||fn.origin== "runtime.AddCleanup"):=by
 unfold Program.laysLater
 rw[Array.any_toList]
theorem zyB(P:Program):P.looks []=P.funcs.toList.any fun fn=>match fn.body with|some c=>c.looks P|none=>false:=by
 unfold Program.looks
 rw[<-zvE _ P.funcs.toList,Array.length_toList]
 congr 1
 funext g
 rw[Array.getElem?_toList]
 simp
 rfl
theorem zle{S:zd}{n:Nat}(hT:TyOk S):∀ (k t:Nat),zqp S n k t=true->∀ u,t<=u->u<t+k->(match S.P.underlying u with|some (.map _ e)=>decide (e<n)|_=>true)=true
 | 0,t,_,u,h1,h2=>by omega
 | k+1,t,h,u,h1,h2=>by
  unfold zqp at h
  rw[Bool.and_eq_true]at h
  rcases Nat.lt_or_ge t u with hu|hu
  .exact zle hT k (t+1) h.2 u hu (by omega)
  .have:u=t:=by omega
   subst this
   have h:=h.1
   split at h
   .rename_i q e hd
    rw[zB hT hd]
    simpa using zS h
   .rename_i d hne hd
    rw[zB hT hd]
    cases d <;> first|rfl|(exact absurd rfl (hne _ _))
   .cases h
theorem zBM{S:zd}{n:Nat}(hT:TyOk S)(hn:S.P.types.size=n)(h:zqp S n n 0=true):mapsRowed S.P=true:=by
 unfold mapsRowed
 rw[hn,List.all_eq_true]
 intro t ht
 exact zle hT n 0 h t (Nat.zero_le _) (by rw[List.mem_range]at ht;omega)
theorem zli{S:zd}(hT:TyOk S):∀ (k t:Nat),zqz S k t=true->∀ u,t<=u->u<t+k->(match S.P.underlying u with
 | some (.map k _)=>(match S.P.underlying k with|some (.array _ _)|some (.struct _)=>false|_=>true)
 | _=>true)=true
 | 0,t,_,u,h1,h2=>by omega
 | k+1,t,h,u,h1,h2=>by
  unfold zqz at h
  rw[Bool.and_eq_true]at h
  rcases Nat.lt_or_ge t u with hu|hu
  .exact zli hT k (t+1) h.2 u hu (by omega)
  .have:u=t:=by omega
   subst this
   have h:=h.1
   split at h
   .rename_i q e hd
    rw[zB hT hd]
    dsimp only
    split at h
    .cases h
    .cases h
    .rename_i d hn1 hn2 hq
     rw[zB hT hq]
     cases d <;> first|rfl|(exact absurd rfl (hn1 _ _))|(exact absurd rfl (hn2 _))
    .cases h
   .rename_i d hne hd
    rw[zB hT hd]
    cases d <;> first|rfl|(exact absurd rfl (hne _ _))
   .cases h
theorem zBS{S:zd}{n:Nat}(hT:TyOk S)(hn:S.P.types.size=n)(h:zqz S n 0=true):S.P.plainKeys=true:=by
 unfold Program.plainKeys
 rw[hn,List.all_eq_true]
 intro t ht
 exact zli hT n 0 h t (Nat.zero_le _) (by rw[List.mem_range]at ht;omega)
end Go.Bm
