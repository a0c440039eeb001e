/-
  The abstract machine of these proofs.
-/
import Derived.Test.YtoanepondbagcaaGreatDoorAmB
import Derived.ProofKit
import Derived.ShutString
import Derived.Scope
set_option linter.unusedVariables false
namespace Go.Am
open Go Go.RowKit
variable {P:Program} {γ γ':Nat->Option G} {M M':Mem} {C:Ctx} {s s':S} {a a':Act} {w w':World}
def aresultR (P:Program) (s:S):ResultVar->Option AV
 | .tmp t=>some (s.sl t)
 | .cell t ty=>match evLoad P s.ob ty [s.sl t] with
  | some (r,none)=>some r
  | _=>none
def aresultsR (P:Program) (s:S) (rs:List ResultVar):Option AV:=
 match allSome (aresultR P s) rs with
 | some [r]=>some r
 | some l=>some (.tup l)
 | none=>none
theorem aresultR_sound (hs:StG C γ M s a w) {rv:ResultVar} {r:AV} (h:aresultR P s rv=some r):
 ∃ v,(resF a.tmps rv).run P w=.ok v w/\ARel γ M r v:=by
 cases rv with
 | tmp t=>cases h; exact ⟨_,rfl,hs.sl t⟩
 | cell t ty=>
  simp only [aresultR] at h
  split at h
  .rename_i r' hl
   cases h
   obtain ⟨u,hu,hr⟩:=evLoad_sound (P:=P) hs hl trivial (hs.sl t)
   exact ⟨u,run_res_cell hu,hr⟩
  .cases h
theorem aresultsR_sound (hs:StG C γ M s a w) (fn:Func) {r:AV} (h:aresultsR P s fn.results.toList=some r):
 ∃ v,(results fn a.tmps).run P w=.ok v w/\ARel γ M r v:=by
 have key:∀ (l:List ResultVar) (rs:List AV),allSome (aresultR P s) l=some rs->∃ vs:List Value,
  (l.mapM (resF a.tmps)).run P w=.ok vs w/\ARels γ M rs vs:=by
  intro l
  induction l with
  | nil=>intro rs h; cases h; exact ⟨[],rfl,.nil⟩
  | cons x l ih=>
   intro rs h
   simp only [allSome] at h
   cases hx:aresultR P s x with
   | none=>rw [hx] at h; cases h
   | some y=>
    cases hl:allSome (aresultR P s) l with
    | none=>rw [hx,hl] at h; cases h
    | some ys=>
     rw [hx,hl] at h; cases h
     obtain ⟨v,hv,hr⟩:=aresultR_sound (P:=P) hs hx
     obtain ⟨vs,hvs,hrs⟩:=ih ys hl
     refine ⟨v::vs,?_,.cons hr hrs⟩
     rw [List.mapM_cons]
     simp only [Sem.run_bind,hv,Sem.run_pure,Result.andThen_ok,hvs]
 unfold aresultsR at h
 cases hl:allSome (aresultR P s) fn.results.toList with
 | none=>rw [hl] at h; cases h
 | some rs=>
  obtain ⟨vs,hvs,hrs⟩:=key _ _ hl
  have hm:(fn.results.mapM (resF a.tmps)).run P w=.ok vs.toArray w:=by
   rw [Array.mapM_eq_mapM_toList,Sem.run_map,hvs]; rfl
  have hres:(results fn a.tmps).run P w=.ok (if h:vs.toArray.size=1 then vs.toArray[0] else .tuple vs.toArray) w:=by
   rw [results_eq,Sem.run_bind,hm]
   rfl
  rw [hl] at h
  refine ⟨_,hres,?_⟩
  have hlen:=hrs.length
  split at h
  .rename_i r' heq
   cases heq; cases h
   cases hrs with
   | cons h1 h2=>cases h2 with | nil=>simpa using h1
  .rename_i l hne heq
   cases heq; cases h
   have hn1:vs.length≠1:=by
    intro e
    match rs,hlen with
    | [r],_=>exact hne r rfl
    | [],hl0=>simp at hl0; rw [hl0] at e; cases e
    | _::_::_,hl0=>simp at hl0; omega
   rw [dif_neg (by simpa using hn1)]
   refine .tup _ _ (by simp [hlen]) fun i hi=>?_
   have:=hrs.get i hi
   simpa [Array.getD_eq_getD_getElem?,List.getD_eq_getElem?_getD] using this
  .rename_i heq; cases heq
def sinitR (args:List AV) (ib:List (Nat×AObj)):S:={ sl:=fun i=>args.getD i .any,ob:=fun i=>lookO i ib,us:=fun i=>(lookO i ib).isSome }
def outsAre (s:S) (outs:List (Nat×AObj)):Prop:=(outs.map fun p=>s.ob p.1)=outs.map fun p=>some p.2
def QendG (C:Ctx) (res:S->Prop) (outs:List (Nat×AObj)):Exit->S->Prop
 | .normal,s=>∃ s2,Sub C s s2/\res s2/\outsAre s2 outs
 | .ret,s=>∃ s2,Sub C s s2/\res s2/\outsAre s2 outs
 | _,_=>False
def QendR (P:Program) (C:Ctx) (rs:List ResultVar) (r:AV) (outs:List (Nat×AObj)):Exit->S->Prop:=QendG C (fun s=>aresultsR P s rs=some r) outs
theorem outsAre_get {outs:List (Nat×AObj)} (h:outsAre s outs) {i:Nat} {o:AObj} (ho:lookO i outs=some o):s.ob i=some o:=by
 have hm:=lookO_mem ho
 unfold outsAre at h
 clear ho
 induction outs with
 | nil=>cases hm
 | cons p l ih=>
  simp only [List.map_cons,List.cons.injEq] at h
  rcases List.mem_cons.1 hm with e | e
  .rw [<-e] at h; exact h.1
  .exact ih h.2 e
theorem FnR_liftG {f:FuncId} {fn:Func} {args:List AV} {ib:List (Nat×AObj)} {kept:List Nat} {r:AV} {outs:List (Nat×AObj)} {res:S->Prop} (hf:P.funcs[f]?=some fn) (hb:(fn.body.isSome,Nat.ble args.length fn.ntmps)=(true,true))
 (hsound:∀ {C:Ctx} {γ:Nat->Option G} {M:Mem} {s:S} {a:Act} {w:World},StG C γ M s a w->res s->∃ v,(results fn a.tmps).run P w=.ok v w/\ARel γ M r v)
 (h:∀ (γ:Nat->Option G) (M:Mem) (w:World) (vs:List Value),ARels γ M args vs->Objs γ M w (fun i=>lookO i ib) (fun b=>b < w.heap.size)->∀ C:Ctx,CtxOk C fn.ntmps kept->T P C (at_ (bodyOf fn) []) (sinitR args ib) (QendG C res outs)):
 FnR P f args ib kept r outs:=by
 intro γ M w vs hO hnone hM hvs
 simp only [Prod.mk.injEq] at hb
 obtain ⟨c,hc⟩:=Option.isSome_iff_exists.1 hb.1
 have hcb:bodyOf fn=c:=by unfold bodyOf; rw [hc]; rfl
 have hn:=Nat.le_of_ble_eq_true hb.2
 let C:Ctx:={ w0:=w,M0:=M,own:=Handed γ ib,nt:=fn.ntmps,g0:=fun i=>match elemB i kept with | true=>γ i | false=>none }
 have hg0:∀ i g,C.g0 i=some g->elemB i kept=true/\γ i=some g:=by
  intro i g hg
  simp only [C] at hg
  split at hg
  .rename_i he; exact ⟨he,hg⟩
  .cases hg
 have hC:CtxOk C fn.ntmps kept:=⟨rfl,fun i g hg=>elemB_spec.1 (hg0 i g hg).1⟩
 have hlen:=hvs.length
 have hst:St C (sinitR args ib) { tmps:=vs.toArray++Array.replicate (fn.ntmps - vs.toArray.size) undef,defers:=[] } w:=by
  refine ⟨γ,M,?_,hO.ob,?_,hO.sep,?_,hM,MLe.refl M,fun _ _ _=>rfl,⟨rfl,rfl,rfl,Nat.le_refl _,fun _ _ _=>rfl⟩,rfl,?_,fun i g hg=>(hg0 i g hg).2⟩
  .intro t
   show ARel γ M (args.getD t .any) _
   by_cases ht:t < args.length
   .have:=hvs.get t ht
    have e:(vs.toArray++Array.replicate (fn.ntmps - vs.toArray.size) undef).getD t undef=vs.getD t undef:=by
     rw [Array.getD_eq_getD_getElem?,Array.getElem?_append_left (by simp; omega)]
     simp [List.getD_eq_getElem?_getD]
    rw [e]; exact this
   .have e:args.getD t .any=.any:=by rw [List.getD_eq_getElem?_getD,List.getElem?_eq_none (by omega)]; rfl
    rw [e]; exact .any _
  .intro i hi
   have hi':(lookO i ib).isSome=false:=hi
   refine hnone i ?_
   cases hl:lookO i ib with
   | none=>rfl
   | some _=>rw [hl] at hi'; cases hi'
  .intro id g b h1 h2 h3
   exact ⟨.inr ⟨id,g,h1,h2,h3⟩,hO.lo id g b h1 h2 h3⟩
  .simp [C]; omega
 have hT:=h γ M w vs hvs hO C hC
 rw [at_nil,hcb] at hT
 refine calls_of_wp hf hc (wpIn_wide (n:=0) |>.1 <| wpIn_mono (hT _ w hst) fun e a' w' ⟨s',hq,hs'⟩=>?_)
 have fin:(∃ s2,Sub C s' s2/\res s2/\outsAre s2 outs)->a'.defers=[]/\∃ v,(results fn a'.tmps).run P w'=.ok v w'/\
  ∃ u γ' M',Ending.returned v=.returned u/\(∀ i ∈ kept,∀ g,γ i=some g->γ' i=some g)/\MLe M M'/\MOk M' w'/\ARel γ' M' r u/\
  Objs γ' M' w' (fun i=>lookO i outs) (fun b=>(w.heap.size<=b\/Handed γ ib b)/\b < w'.heap.size)/\
  (∀ b,b < w.heap.size->¬ Handed γ ib b->w'.heap[b]?=w.heap[b]?/\M' b=M b)/\w.heap.size<=w'.heap.size/\w'.os=w.os/\w'.tape=w.tape/\w'.output=w.output:=by
  rintro ⟨s2,hsub,hr,ho⟩
  obtain ⟨γ',M',hs2⟩:=hsub a' w' hs'
  obtain ⟨v,hv,hrel⟩:=hsound hs2 hr
  have hne:∀ {i},lookO i outs≠none->s2.ob i≠none:=by
   intro i hi
   cases hl:lookO i outs with
   | none=>exact absurd hl hi
   | some o=>rw [outsAre_get ho hl]; simp
  refine ⟨hs2.df,v,hv,v,γ',M',rfl,fun i hi g hg=>hs2.gl i g ?_,hs2.le,hs2.mem,hrel,⟨fun i o hi=>hs2.ob i o (outsAre_get ho hi),fun i j g g' b hi hj=>hs2.sep i j g g' b (hne hi) (hne hj),fun i g b hi=>hs2.lo i g b (hne hi)⟩,
   fun b hb hh=>⟨hs2.fr.block b hb hh,hs2.new b hb hh⟩,hs2.fr.size,hs2.fr.os,hs2.fr.tape,hs2.fr.output⟩
  simp only [C]
  rw [elemB_spec.2 hi]; exact hg
 cases e with
 | normal=>exact fin hq
 | ret=>exact fin hq
 | _=>exact hq.elim
theorem FnR_lift {f:FuncId} {fn:Func} {args:List AV} {ib:List (Nat×AObj)} {kept:List Nat} {r:AV} {outs:List (Nat×AObj)} (hf:P.funcs[f]?=some fn) (hb:(fn.body.isSome,Nat.ble args.length fn.ntmps)=(true,true))
 (h:∀ (γ:Nat->Option G) (M:Mem) (w:World) (vs:List Value),ARels γ M args vs->Objs γ M w (fun i=>lookO i ib) (fun b=>b < w.heap.size)->∀ C:Ctx,CtxOk C fn.ntmps kept->T P C (at_ (bodyOf fn) []) (sinitR args ib) (QendR P C fn.results.toList r outs)):
 FnR P f args ib kept r outs:=
 FnR_liftG hf hb (fun hs hr=>aresultsR_sound hs fn hr) h
theorem FnR_liftS {f:FuncId} {fn:Func} {args:List AV} {ib:List (Nat×AObj)} {kept:List Nat} {r:AV} {outs:List (Nat×AObj)} (hf:P.funcs[f]?=some fn) (hb:(fn.body.isSome,Nat.ble args.length fn.ntmps)=(true,true))
 (h:∀ (γ:Nat->Option G) (M:Mem) (w:World) (vs:List Value),ARels γ M args vs->Objs γ M w (fun i=>lookO i ib) (fun b=>b < w.heap.size)->∀ C:Ctx,CtxOk C fn.ntmps kept->T P C (at_ (bodyOf fn) []) (sinitR args ib) (QendG C (fun s=>aresults P s fn.results.toList=some r) outs)):
 FnR P f args ib kept r outs:=
 FnR_liftG hf hb (fun {C γ M s a w} hs hr=>let ⟨v,h1,h2⟩:=aresults_sound hs fn hr; ⟨v,h1,h2.mono (fun _ _ hx=>by cases hx) (MLe.refl M)⟩) h
def mkEnvR (l:List (Nat×RSpec)):EnvR:=fun f=>lookO f l
theorem EnvROk_mk {l:List (Nat×RSpec)} (h:All (l.map fun p=>SpecROk P p.1 p.2)):EnvROk P (mkEnvR l):=fun _ _ he=>AllL h _ (lookO_mem he)
theorem and_mk {a b:Bool} (h:a=true) (k:b=true):(a&&b)=true:=by rw [h,k]; rfl
theorem not_mk {b:Bool} (h:b=false):(!b)=true:=by rw [h]; rfl
end Go.Am
namespace Go.Am
open Go Go.RowKit
variable {P:Program} {C:Ctx} {s s':S} {a a':Act} {w w':World}
end Go.Am
namespace Go.Am
open Go Go.RowKit
variable {P:Program} {γ γ':Nat->Option G} {M M':Mem} {C:Ctx} {s s':S} {a a':Act} {w w':World}
theorem append_mem {op:Op} (h:appendOp op=true):memOp op=true:=by unfold memOp; rw [h]; exact Bool.or_true _
theorem swap_ba {env:Env} {nt:Nat} {ops:Array Oper} {x y:Oper} {s s1 s2:S} {p1 p2:List Prop} (hap:Oper.apart ops y x=true) (hy:birthOp y.op=true) (hx:appendOp x.op=true) (hsem:SemX s x)
 (h1:astep P env nt ops y s=some (s1,p1)) (h2:astep P env nt ops x s1=some (s2,p2)) (hp:All p2):
 ∃ s1',astep P env nt ops x s=some (s1',p2)/\astep P env nt ops y s1'=some (s2,p1):=by
 obtain ⟨a1,a2,a3⟩:=apart_dst hap
 rw [astep_eff (mem_eff (birth_eff hy))] at h1
 rw [astep_eff (mem_eff (append_mem hx))] at h2
 obtain ⟨hv,e1,_,_⟩:=estep_inv h1
 obtain ⟨hg,d,hdst,hdk,hu,hform⟩:=estep_mem (birth_eff hy) h1
 obtain ⟨hgx,dx,hdstx,hdkx,hux,hformx⟩:=estep_mem (append_mem hx) h2
 have hne:dx≠d:=fun e=>a2 d hdst (by rw [hdstx,e])
 have hargs:argsOf s1 x=argsOf s x:=by unfold argsOf; rw [e1]; exact args_pset a1 s.sl hv
 have hgx':guardOf ops s.sl x=some none:=by rw [<-hgx,e1]; exact (guard_pset a1 s.sl hv).symm
 rcases hform with ⟨hb,o,ok,hBy,ho,hs1,hp1⟩ | ⟨_,_,_,_,_,_,_,hop,_⟩
 .rcases hformx with ⟨hbx,_⟩ | ⟨as,ts,t,tx,x',y',r,hop,ht,htx,hsz,hxs,hr,hs2,hp2⟩
  .exfalso
   unfold appendOp at hx
   split at hx
   .rename_i hop; rw [hop] at hbx; cases hbx
   .cases hx
  .rw [hargs] at hxs hp2
   have hus:s.us dx=false:=by rw [hs1] at hux; exact (upd_ne s.us true hne).symm.trans hux
   have hob:s.ob dx=none:=hsem.free dx hus
   rw [hp2] at hp
   obtain ⟨γ,M,vs,hrel,hfree⟩:=hsem.rel (All.append hp).1
   rw [hxs] at hrel
   have hγ:=hfree d hu
   have kx:∀ i,x'=.arr i->i≠d:=by
    intro i e ei
    obtain ⟨v,hv⟩:=hrel.head
    rw [e] at hv
    exact named_arr hv (by rw [ei]; exact hγ)
   have ky:∀ i,y'=.arr i->i≠d:=by
    intro i e ei
    obtain ⟨vs',ht⟩:=hrel.tail
    obtain ⟨v,hv⟩:=ht.head
    rw [e] at hv
    exact named_arr hv (by rw [ei]; exact hγ)
   have back:∀ i,i≠d->∀ o',s1.ob i=some o'->s.ob i=some o':=by
    intro i hi o' h
    rw [hs1] at h
    exact (upd_ne s.ob _ hi).symm.trans h
   have hr':evAppend P s.ob t tx [x',y']=some r:=evAppend_monoR (fun i e=>back i (kx i e)) (fun i e=>back i (ky i e)) hr
   have hold:r.2.1≠some d:=fun e=>kx d (evAppend_old hr e).1 rfl
   refine ⟨sappend s dx r.2.1 r.1,?_,?_⟩
   .rw [astep_eff (mem_eff (append_mem hx)),estep_append hgx' hdstx hdkx hus hop ht htx hsz hxs hr',hp2]
   .rw [astep_eff (mem_eff (birth_eff hy))]
    have a3':∀ d,some dx=some d->d ∉ Oper.looksAt ops y:=fun d hd=>a3 d (by rw [hdstx]; exact hd)
    have hgy:guardOf ops (sappend s dx r.2.1 r.1).sl y=some none:=(guard_pset (dst:=some dx) a3' s.sl _).trans hg
    have hargy:argsOf (sappend s dx r.2.1 r.1) y=argsOf s y:=args_pset (dst:=some dx) a3' s.sl _
    have huy:(sappend s dx r.2.1 r.1).us d=false:=(upd_ne s.us true (fun e=>hne e.symm)).trans hu
    have hoy:(sappend s dx r.2.1 r.1).ob d=none:=by
     refine (upd_ne (delO s.ob r.2.1) _ (fun e=>hne e.symm)).trans ?_
     rw [delO_ne hold]; exact ho
    rw [estep_birth hgy hdst hdk huy hb (by rw [hargy]; exact hBy) hoy,hargy,hs2,hs1,hp1]
    unfold sbirth sappend
    dsimp only
    rw [upd_comm s.sl _ _ hne,delO_upd hold,upd_comm (delO s.ob r.2.1) _ _ hne,upd_comm s.us _ _ hne]
 .exact (birth_append hy hop).elim
end Go.Am
namespace Go.Am
open Go Go.RowKit
variable {P:Program} {γ γ':Nat->Option G} {M M':Mem} {C:Ctx} {s s':S} {a a':Act} {w w':World}
theorem evStore_old {ob:Nat->Option AObj} {t:TypeId} {xs:List AV} {r:Nat×AObj×Option Prop} (h:evStore P ob t xs=some r):ob r.1≠none:=by
 unfold evStore at h
 split at h
 .rename_i id off x
  split at h
  .split at h
   .cases h; simp [*]
   .cases h
  .split at h
   .cases h; simp [*]
   .cases h
  .cases h
 .rename_i id i j x
  split at h
  .split at h
   .cases h; simp [*]
   .cases h
  .split at h
   .cases h; simp [*]
   .cases h
  .split at h
   .split at h
    .split at h
     .cases h; simp [*]
     .cases h
    .cases h
   .cases h
  .cases h
 .cases h
theorem SemX.step {env:Env} {nt:Nat} {ops:Array Oper} {x y:Oper} {s s1:S} {p1:List Prop} (hap:Oper.apart ops y x=true) (h1:astep P env nt ops y s=some (s1,p1)) (hsem:SemX s x):SemX s1 x:=by
 obtain ⟨a1,_,_⟩:=apart_dst hap
 have fin:∀ s1:S,(∃ v,s1.sl=pset s.sl y.dst v)->(∀ d,s1.us d=false->s.us d=false)->(∀ d,s1.us d=false->s1.ob d=none)->SemX s1 x:=by
  rintro s1 ⟨v,hs⟩ hu ho
  have hargs:argsOf s1 x=argsOf s x:=by unfold argsOf; rw [hs]; exact args_pset a1 s.sl v
  refine ⟨ho,?_⟩
  rw [hargs]
  intro hp
  obtain ⟨γ,M,vs,h1,h2⟩:=hsem.rel hp
  exact ⟨γ,M,vs,h1,fun d hd=>h2 d (hu d hd)⟩
 cases ey:effOp y.op with
 | false=>
  rw [astep_val ey] at h1
  obtain ⟨ry,hy,he⟩:=map_some h1
  cases he
  exact fin _ ⟨ry.v,rfl⟩ (fun d hd=>hd) (fun d hd=>hsem.free d hd)
 | true=>
  rw [astep_eff ey] at h1
  obtain ⟨hv,e1,_,_⟩:=estep_inv h1
  by_cases hm:memOp y.op=true
  .obtain ⟨_,d,hdst,_,hu,hform⟩:=estep_mem hm h1
   have key:∀ i,(upd s.us d true) i=false->i≠d/\s.us i=false:=by
    intro i hi
    have:i≠d:=by intro e; rw [e,upd_same] at hi; cases hi
    exact ⟨this,(upd_ne s.us true this).symm.trans hi⟩
   rcases hform with ⟨_,o,ok,_,ho,hs1,_⟩ | ⟨_,_,_,_,_,_,r,_,_,_,_,_,_,hs1,_⟩
   .refine fin _ ⟨hv,e1⟩ (fun i hi=>?_) (fun i hi=>?_)
    .rw [hs1] at hi; exact (key i hi).2
    .rw [hs1] at hi ⊢
     obtain ⟨h2,h3⟩:=key i hi
     exact (upd_ne s.ob _ h2).trans (hsem.free i h3)
   .refine fin _ ⟨hv,e1⟩ (fun i hi=>?_) (fun i hi=>?_)
    .rw [hs1] at hi; exact (key i hi).2
    .rw [hs1] at hi ⊢
     obtain ⟨h2,h3⟩:=key i hi
     refine (upd_ne (delO s.ob r.2.1) _ h2).trans ?_
     cases hq:r.2.1 with
     | none=>exact hsem.free i h3
     | some j=>
      unfold delO
      by_cases e:i=j
      .rw [e]; exact upd_same _ _ _
      .exact (upd_ne s.ob _ e).trans (hsem.free i h3)
  . -- a store
   unfold estep at h1
   split at h1
   .obtain ⟨⟨s2,ok⟩,hE,he⟩:=map_some h1
    cases he
    unfold evE at hE
    split at hE
    .rename_i t xx yy hop
     split at hE
     .obtain ⟨r,hr,he⟩:=map_some hE
      cases he
      refine fin _ ⟨hv,e1⟩ (fun i hi=>hi) (fun i hi=>?_)
      have hi':s.us i=false:=hi
      have:i≠r.1:=by intro e; exact evStore_old hr (e ▸ hsem.free i hi')
      exact (upd_ne s.ob _ this).trans (hsem.free i hi')
     .cases hE
    .rename_i as ts hop
     exact absurd (by rw [hop]; rfl) hm
    .rename_i hn1 hn2
     exfalso
     refine hm ?_
     cases hop:y.op <;> rw [hop] at ey <;> first | rfl | (simp only [effOp,birthOp,reduceCtorEq] at ey)
     .exact absurd hop (hn1 _ _ _)
     .rename_i c
      obtain ⟨callee,args,ts⟩:=c
      cases callee with
      | builtin b=>
       cases b <;> first
        | rfl
        | (simp only [reduceCtorEq] at ey)
      | value f=>simp only [reduceCtorEq] at ey
      | invoke r m=>simp only [reduceCtorEq] at ey
   .cases h1
end Go.Am
namespace Go.Am
open Go Go.RowKit
variable {P:Program} {C:Ctx} {s s':S} {a a':Act} {w w':World}
def indepM (ops:Array Oper) (y x:Oper):Bool:=
 Oper.apart ops y x&&x.guard.isNone&&((memOp y.op&&!effOp x.op)||(memOp y.op&&birthOp x.op)||(birthOp y.op&&appendOp x.op))
def indepW (ops:Array Oper) (rs:List Nat) (y x:Nat) (oy ox:Oper):Bool:=!elemB y rs&&!elemB x rs&&(indepB ops oy ox||indepM ops oy ox)
theorem indepW_spec {ops:Array Oper} {rs:List Nat} {y x:Nat} {oy ox:Oper} (h:indepW ops rs y x oy ox=true):elemB y rs=false/\elemB x rs=false/\(indepB ops oy ox=true\/indepM ops oy ox=true)/\Oper.apart ops oy ox=true:=by
 unfold indepW at h
 simp only [Bool.and_eq_true,Bool.not_eq_true',Bool.or_eq_true] at h
 obtain ⟨⟨h1,h2⟩,h3⟩:=h
 refine ⟨h1,h2,h3,?_⟩
 rcases h3 with h3 | h3
 .unfold indepB at h3; rw [Bool.and_eq_true] at h3; exact h3.1
 .unfold indepM at h3; simp only [Bool.and_eq_true] at h3; exact h3.1.1
theorem swapW {env:Env} {envR:EnvR} {rs:List Nat} {nt:Nat} {ops:Array Oper} {x y:Nat} {ox oy:Oper} {s s1 s2:S} {p1 p2:List Prop} (hi:indepW ops rs y x oy ox=true) (hsem:SemX s ox)
 (h1:astepR P env envR nt ops rs y oy s=some (s1,p1)) (h2:astepR P env envR nt ops rs x ox s1=some (s2,p2)) (hp:All p2):
 ∃ s1',astepR P env envR nt ops rs x ox s=some (s1',p2)/\astepR P env envR nt ops rs y oy s1'=some (s2,p1):=by
 obtain ⟨hy,hx,hk,hap⟩:=indepW_spec hi
 unfold astepR at *
 rw [hy] at h1 ⊢
 rw [hx] at h2 ⊢
 rcases hk with hk | hk
 .exact swap hk h1 h2
 .unfold indepM at hk
  simp only [Bool.and_eq_true,Bool.or_eq_true,Bool.not_eq_true',Option.isNone_iff_eq_none] at hk
  obtain ⟨⟨_,hg⟩,(⟨hm,hv⟩ | ⟨hm,hb⟩) | ⟨hb,ha⟩⟩:=hk
  .exact swap_mv hap hm hv hg hsem h1 h2 hp
  .exact swap_mb hap hm hb hsem h1 h2
  .exact swap_ba hap hb ha hsem h1 h2 hp
theorem SemX.stepW {env:Env} {envR:EnvR} {rs:List Nat} {nt:Nat} {ops:Array Oper} {x y:Nat} {ox oy:Oper} {s s1:S} {p1:List Prop} (hi:indepW ops rs y x oy ox=true)
 (h1:astepR P env envR nt ops rs y oy s=some (s1,p1)) (hsem:SemX s ox):SemX s1 ox:=by
 obtain ⟨hy,_,_,hap⟩:=indepW_spec hi
 unfold astepR at h1
 rw [hy] at h1
 exact SemX.step hap h1 hsem
def drawOkW (ops:Array Oper) (rs:List Nat):Bool:=
 (List.range ops.size).all fun x=>(List.range x).all fun y=>
  ((masks ops.toList []).getD x 0).testBit y||(match ops[y]?,ops[x]? with
   | some oy,some ox=>indepW ops rs y x oy ox
   | _,_=>false)
theorem drawOkW_spec {ops:Array Oper} {rs:List Nat} (h:drawOkW ops rs=true) {x y:Nat} {ox oy:Oper} (hxy:y < x) (hx:ops[x]?=some ox) (hy:ops[y]?=some oy)
 {listed:Nat->Bool} (hc:Closed ops listed) (hd:Done ops listed x) (hny:listed y=false):indepW ops rs y x oy ox=true:=by
 unfold drawOkW at h
 have hlt:x < ops.size:=(Array.getElem?_eq_some_iff.1 hx).1
 have h1:=List.all_eq_true.1 h x (List.mem_range.2 hlt)
 have h2:=List.all_eq_true.1 h1 y (List.mem_range.2 hxy)
 rw [hx,hy] at h2
 rw [Bool.or_eq_true] at h2
 rcases h2 with h2 | h2
 .exfalso
  cases hm:(masks ops.toList [])[x]? with
  | none=>rw [List.getD_eq_getElem?_getD,hm] at h2; simp at h2
  | some m=>
   rw [List.getD_eq_getElem?_getD,hm] at h2
   have:=masks_ok (ops:=ops) ops.toList [] (fun i o ho=>by simpa using ho) (fun x m hx=>by simp at hx) x m hm listed hc hd y h2
   rw [hny] at this; cases this
 .exact h2
theorem bubbleW {env:Env} {envR:EnvR} {rs:List Nat} {nt:Nat} {ops:Array Oper} {x:Nat} {ox:Oper} (hx:ops[x]?=some ox):∀ (l1 l2:List Nat) (s s':S) (ps:List Prop),
 (∀ y ∈ l1,∀ oy,ops[y]?=some oy->indepW ops rs y x oy ox=true)->SemX s ox->All ps->aopsR P env envR nt ops rs (l1++x::l2) s=some (s',ps)->
 ∃ s1 p1 p2,astepR P env envR nt ops rs x ox s=some (s1,p1)/\aopsR P env envR nt ops rs (l1++l2) s1=some (s',p2)/\(All p1/\All p2)
 | [],l2,s,s',ps,_,_,hps,h=>by
  simp only [List.nil_append,aopsR,hx] at h ⊢
  cases h1:astepR P env envR nt ops rs x ox s with
  | none=>rw [h1] at h; cases h
  | some q=>
   obtain ⟨s1,p1⟩:=q
   rw [h1] at h
   dsimp only at h
   cases h2:aopsR P env envR nt ops rs l2 s1 with
   | none=>rw [h2] at h; cases h
   | some q=>
    obtain ⟨s2,p2⟩:=q
    rw [h2] at h; cases h
    exact ⟨s1,p1,p2,rfl,h2,All.append hps⟩
 | y::l1,l2,s,s',ps,hi,hsem,hps,h=>by
  simp only [List.cons_append,aopsR] at h
  cases hy:ops[y]? with
  | none=>rw [hy] at h; cases h
  | some oy=>
   rw [hy] at h
   dsimp only at h
   cases h1:astepR P env envR nt ops rs y oy s with
   | none=>rw [h1] at h; cases h
   | some q=>
    obtain ⟨s1,p1⟩:=q
    rw [h1] at h
    dsimp only at h
    cases h2:aopsR P env envR nt ops rs (l1++x::l2) s1 with
    | none=>rw [h2] at h; cases h
    | some q=>
     obtain ⟨s2,p2⟩:=q
     rw [h2] at h; cases h
     obtain ⟨u1,u2⟩:=All.append hps
     have hind:=hi y (List.mem_cons_self ..) oy hy
     have hsem1:=SemX.stepW hind h1 hsem
     obtain ⟨t1,q1,q2,b1,b2,b3,b4⟩:=bubbleW hx l1 l2 s1 s' p2 (fun y' hy'=>hi y' (List.mem_cons_of_mem _ hy')) hsem1 u2 h2
     obtain ⟨t0,c1,c2⟩:=swapW hind hsem h1 b1 b3
     refine ⟨t0,q1,p1++q2,c1,?_,b3,All.mk u1 b4⟩
     simp only [List.cons_append,aopsR,hy,c2,b2]
theorem aopsW_any {env:Env} (henv:EnvOk P env) {envR:EnvR} (henvR:EnvROk P envR) {rs:List Nat} {ops:Array Oper} (hk:drawOkW ops rs=true) {Q:Exit->Act->World->Prop} {s':S}
 (hq:∀ a' w',St C s' a' w'->Q .normal a' w'):∀ (fuel:Nat) (listed:Array Bool) (l:List Nat) (s:S) (ps:List Prop) (a:Act) (w:World),
 listed.size=ops.size->(∀ i,i ∈ l↔i < ops.size/\listed.getD i true=false)->l.Pairwise (· < ·)->Closed ops (lsF listed)->l.length<=fuel->
 aopsR P env envR C.nt ops rs l s=some (s',ps)->All ps->St C s a w->(∀ (x:Nat) (o:Oper),ops[x]?=some o->∀ e ∈ o.after,Region.binds .any e=true->e.on < x)->wpAnyIn (FW C.rd) 0 P .any ops Q fuel listed a w:=by
 intro fuel
 induction fuel with
 | zero=>
  intro listed l s ps a w hsz hl hsort hcl hle h hps hs hbk
  have:l=[]:=List.length_eq_zero_iff.1 (Nat.le_zero.1 hle)
  subst this
  cases h
  refine ⟨?_,hq a w hs⟩
  refine List.eq_nil_iff_forall_not_mem.2 fun j hj=>?_
  obtain ⟨h0,o,ho,_⟩:=mem_ready.1 hj
  exact absurd ((hl j).2 ⟨(Array.getElem?_eq_some_iff.1 ho).1,h0⟩) (by simp)
 | succ fuel ih=>
  intro listed l s ps a w hsz hl hsort hcl hle h hps hs hbk
  refine ⟨fun hr=>?_,fun x hx=>?_⟩
  .cases l with
   | nil=>cases h; exact hq a w hs
   | cons x r=>
    exfalso
    have hxm:=(hl x).1 (List.mem_cons_self ..)
    have hox:ops[x]?=some ops[x]:=Array.getElem?_eq_getElem hxm.1
    have:x ∈ Region.ready .any ops listed:=by
     refine mem_ready.2 ⟨hxm.2,_,hox,fun e he hbi=>?_⟩
     have hlt:=hbk x _ hox e he hbi
     cases hle':listed.getD e.on false with
     | true=>rfl
     | false=>
      exfalso
      have he2:e.on < ops.size:=Nat.lt_trans hlt hxm.1
      have hmem:e.on ∈ x::r:=by
       refine (hl e.on).2 ⟨he2,?_⟩
       have hlt3:e.on < listed.size:=by rw [hsz]; exact he2
       simpa [Array.getD,hlt3] using hle'
      rcases List.mem_cons.1 hmem with h3 | h3
      .omega
      .have:=List.rel_of_pairwise_cons hsort h3
       omega
    rw [hr] at this; cases this
  .obtain ⟨h0,ox,hox,hall⟩:=mem_ready.1 hx
   have hlt:=(Array.getElem?_eq_some_iff.1 hox).1
   obtain ⟨l1,l2,rfl,hl1⟩:=sublist_split hsort ((hl x).2 ⟨hlt,h0⟩)
   have hind:∀ y ∈ l1,∀ oy,ops[y]?=some oy->indepW ops rs y x oy ox=true:=fun y hy oy hoy=>by
    refine drawOkW_spec hk (hl1 y hy) hox hoy hcl ?_ ?_
    .intro o ho e he hb
     rw [hox] at ho; cases ho
     exact hall e he hb
    .have:=((hl y).1 (List.mem_append_left _ hy)).2
     have hy2:y < listed.size:=by rw [hsz]; exact ((hl y).1 (List.mem_append_left _ hy)).1
     simp only [lsF]
     simpa [Array.getD,hy2] using this
   obtain ⟨s1,p1,p2,b1,b2,hp1,hp2⟩:=bubbleW hox l1 l2 s s' ps hind (hs.sem ox) hps h
   have step:=astepR_sound henv henvR b1 hp1 hs (next:=wpAnyIn (FW C.rd) 0 P .any ops Q fuel (listed.setIfInBounds x true)) (Q:=Q) fun a' w' hs'=>by
    have hpw:=List.pairwise_append.1 hsort
    refine ih (listed.setIfInBounds x true) (l1++l2) s1 p2 a' w' (by simpa using hsz) (fun i=>?_) ?_ ?_ ?_ b2 hp2 hs' hbk
    .have hi:=hl i
     by_cases hix:x=i
     .subst hix
      have hxs:x < listed.size:=by rw [hsz]; exact hlt
      constructor
      .intro hm
       exfalso
       rcases List.mem_append.1 hm with hm | hm
       .exact absurd (hl1 x hm) (by omega)
       .have:=List.rel_of_pairwise_cons hpw.2.1 hm
        omega
      .rintro ⟨_,hh⟩
       simp [hxs] at hh
     .rw [getD_set_ne true hix,<-hi]
      simp only [List.mem_append,List.mem_cons]
      constructor
      .rintro (h | h)
       .exact .inl h
       .exact .inr (.inr h)
      .rintro (h | h | h)
       .exact .inl h
       .exact absurd h.symm hix
       .exact .inr h
    .exact List.Pairwise.sublist (List.Sublist.append (List.Sublist.refl _) (List.sublist_cons_self ..)) hsort
    .intro y hy o ho e he hb
     simp only [lsF] at hy ⊢
     by_cases hyx:x=y
     .subst hyx
      rw [hox] at ho; cases ho
      exact getD_set_true (hall e he hb)
     .rw [getD_set_ne false hyx] at hy
      exact getD_set_true (hcl y hy o ho e he hb)
    .simp only [List.length_append,List.length_cons] at hle ⊢
     omega
   unfold wpOpIn
   rw [hox]
   dsimp only
   split
   .rename_i hw; rw [if_pos hw] at step; exact step
   .rename_i hw; rw [if_neg hw] at step; exact ⟨fun _ _=>trivial,step⟩
def backOkW (ops:Array Oper):Bool:=(List.range ops.size).all fun x=>match ops[x]? with
 | some o=>o.after.all fun e=>!Region.binds .any e||Nat.blt e.on x
 | none=>true
theorem backOkW_spec {ops:Array Oper} (h:backOkW ops=true):∀ (x:Nat) (o:Oper),ops[x]?=some o->∀ e ∈ o.after,Region.binds .any e=true->e.on < x:=by
 intro x o ho e he hb
 have h1:=List.all_eq_true.1 h x (List.mem_range.2 (Array.getElem?_eq_some_iff.1 ho).1)
 rw [ho] at h1
 have:=Array.all_eq_true_iff_forall_mem.1 h1 e he
 rw [hb] at this
 simpa [Nat.blt_eq] using this
theorem T_regiondW {env:Env} (henv:EnvOk P env) {envR:EnvR} (henvR:EnvROk P envR) {rs:List Nat} (hm:P.follows .mixedOrders=true) {id:Nat} {ops:Array Oper} {Q:Exit->S->Prop} {ps:List Prop}
 (hk:drawOkW ops rs=true) (hb:backOkW ops=true)
 (h:aopsR P env envR C.nt ops rs (List.range ops.size) s=some (s',ps)) (hp:All ps) (hq:Q .normal s'):T P C (.region id ops true) s Q:=by
 intro a w hs
 refine wpIn_region_any hm ?_
 refine aopsW_any henv henvR hk (fun a' w' hs'=>⟨s',hq,hs'⟩) ops.size _ (List.range ops.size) s ps a _ (by simp) (fun i=>?_) List.pairwise_lt_range ?_ (by simp) h hp hs.drew (backOkW_spec hb)
 .simp only [List.mem_range]
  constructor
  .intro hi; exact ⟨hi,by simp [hi]⟩
  .exact fun h=>h.1
 .intro x hx
  exfalso
  simp only [lsF] at hx
  rw [Array.getD_eq_getD_getElem?,Array.getElem?_replicate] at hx
  split at hx <;> simp at hx
def drawCW (c:Code) (rs:List Nat):Bool:=match region? c with
 | some (_,ops,true)=>drawOkW ops rs&&backOkW ops
 | _=>false
theorem T_regdW {env:Env} (henv:EnvOk P env) {envR:EnvR} (henvR:EnvROk P envR) (hm:P.follows .mixedOrders=true) {nt:Nat} {fx:List Nat} (hC:CtxOk C nt fx) (rs:List Nat) {c:Code} {Q:Exit->S->Prop} (rn:Rn) (l:List (Nat×AV)) (o:List (Nat×AObj)) (ps:List Prop)
 (h:arunR P env envR nt rs c s rn l=some (true,(wants rn l o).1,(wants rn l o).2,ps)) (hd:drawCW c rs=true) (hk:(o.map (·.1),okB fx rn l o)=(rn.map (·.1),true)) (hp:All ps) (hq:∀ s',Sub C s' (mkS l o)->Q .normal s'):
 T P C c s Q:=by
 have hnt:=hC.nt
 subst hnt
 unfold arunR at h
 unfold drawCW at hd
 cases hr:region? c with
 | none=>rw [hr] at h; cases h
 | some r=>
  obtain ⟨id,ops,d⟩:=r
  rw [hr] at h hd
  dsimp only at h
  cases ha:aopsR P env envR C.nt ops rs (List.range ops.size) s with
  | none=>rw [ha] at h; cases h
  | some q=>
   obtain ⟨s',ps'⟩:=q
   rw [ha] at h
   simp only [Option.some.injEq,Prod.mk.injEq] at h
   obtain ⟨rfl,h1,h2,rfl⟩:=h
   have hc:=region?_spec hr
   rw [hc]
   have hv:view rn l s'=wants rn l o:=Prod.ext h1 h2
   simp only [Prod.mk.injEq] at hk
   simp only [Bool.and_eq_true] at hd
   exact T_regiondW henv henvR hm hd.1 hd.2 ha hp (hq s' (Sub_view hC rn hk.1 hv hk.2))
end Go.Am
namespace Go.Am
open Go Go.RowKit Go.ChangeShapes Go.WideShapes Go.ChangeAt
variable {H:Type} {enc:TypeId×Value->H} {P:Program}
theorem post_of_below {f:Func} {s:ChangeSpec} {apart fresh handsOn again:Bool} {W W':World} {args:Array Value} {v:Value} {ds gs:List (DataW H)} {before pa pv:List MemPlace}
 (hW:DataW.Whole enc P f.params.toList s.vars apart W args.toList ds gs before)
 (hres:∀ (b:Nat) (sp:Nat->Bool) (hd:Bool),DataW.TrodAll enc P W' b sp hd f.resultTypes.toList (v.resultList f.resultTypes.size) (s.fn H (ds++gs)).results [])
 (hargs:∀ sp:Nat->Bool,(∀ p ∈ before,sp p.block=true)->DataW.TrodAll enc P W' 0 sp true f.params.toList args.toList (s.fn H (ds++gs)).args pa)
 (hvars:∀ sp:Nat->Bool,(∀ p ∈ before,sp p.block=true)->DataW.TrodVars enc P W' sp s.vars (s.fn H (ds++gs)).vars pv)
 (hps:before=pa++pv) (hb:Below W.heap.size W W')
 (hok:∀ (j:Nat) (t:TypeId) (r:Value),f.resultTypes[j]?=some t->(v.resultList f.resultTypes.size)[j]?=some r->Value.okWide P W' .any 0 t r):
 s.post enc P f apart fresh handsOn again W args v W':=by
 have hlt:∀ p ∈ before,p.block < W.heap.size:=hW.lt
 have hold:∀ p ∈ before,(fun b=>decide (b < W.heap.size)) p.block=true:=fun p hp=>by simpa using hlt p hp
 refine ⟨ds,gs,before,[],pa,pv,hW,hres _ _ _,hargs _ hold,hvars _ hold,hb.frame _,fun _=>?_⟩
 obtain ⟨_,_,_,_,_,hz,hn⟩:=hW
 refine ⟨hok,_,_,([]++pa)++pv,⟨[]++pa,pv,trodAll_append (hargs _ (fun _ _=>rfl)) (hres _ _ _),hvars _ (fun _ _=>rfl),rfl,?_,?_⟩,?_⟩
 .intro b off hp
  have hp':MemPlace.cell b off ∈ before:=by rw [hps]; simpa using hp
  rw [hb.frozen (p:=⟨b,off,none⟩) (hlt _ hp')]
  exact hz b off hp'
 .intro ha
  have:=hn ha
  rw [hps] at this
  simpa using this
 .intro p hp _
  rw [hps]
  simpa using hp
end Go.Am
namespace Go.Am
open Go
theorem i64_small {n:Int} (h0:0<=n) (h1:n < 9223372036854775808):IntKind.i64.wrap n=n:=by
 have e:(2:Int) ^ IntKind.i64.bits=18446744073709551616:=rfl
 have e1:(2:Int) ^ (IntKind.i64.bits - 1)=9223372036854775808:=rfl
 have e2:IntKind.i64.signed=true:=rfl
 simp only [IntKind.wrap,e,e1,e2,Bool.true_and,decide_eq_true_eq]
 split <;> omega
theorem u8_wrap (n:Int):IntKind.u8.wrap n=n % 256:=by
 have e:(2:Int) ^ IntKind.u8.bits=256:=rfl
 have e2:IntKind.u8.signed=false:=rfl
 simp only [IntKind.wrap,e,e2,Bool.false_and,Bool.false_eq_true,if_false]
theorem i64_and {a b:Nat} (ha:a < 9223372036854775808) (hb:b < 9223372036854775808):ibits .and .i64 (a:Int) (b:Int)=((a&&& b:Nat):Int):=by
 have h1:(BitVec.ofInt IntKind.i64.bits (a:Int)&&& BitVec.ofInt IntKind.i64.bits (b:Int)).toNat=a&&& b:=by
  rw [BitVec.toNat_and,BitVec.ofInt_natCast,BitVec.ofInt_natCast,BitVec.toNat_ofNat,BitVec.toNat_ofNat]
  have e:2 ^ IntKind.i64.bits=18446744073709551616:=rfl
  rw [e,Nat.mod_eq_of_lt (by omega),Nat.mod_eq_of_lt (by omega)]
 show IntKind.i64.wrap (((BitVec.ofInt IntKind.i64.bits (a:Int)&&& BitVec.ofInt IntKind.i64.bits (b:Int)).toNat:Nat):Int)=_
 rw [h1]
 have:a&&& b<=a:=Nat.and_le_left
 exact i64_small (by omega) (by omega)
theorem i64_or {a b:Nat} (ha:a < 9223372036854775808) (hb:b < 9223372036854775808):ibits .or .i64 (a:Int) (b:Int)=((a||| b:Nat):Int):=by
 have h1:(BitVec.ofInt IntKind.i64.bits (a:Int)||| BitVec.ofInt IntKind.i64.bits (b:Int)).toNat=a||| b:=by
  rw [BitVec.toNat_or,BitVec.ofInt_natCast,BitVec.ofInt_natCast,BitVec.toNat_ofNat,BitVec.toNat_ofNat]
  have e:2 ^ IntKind.i64.bits=18446744073709551616:=rfl
  rw [e,Nat.mod_eq_of_lt (by omega),Nat.mod_eq_of_lt (by omega)]
 show IntKind.i64.wrap (((BitVec.ofInt IntKind.i64.bits (a:Int)||| BitVec.ofInt IntKind.i64.bits (b:Int)).toNat:Nat):Int)=_
 rw [h1]
 have:a||| b < 2 ^ 63:=Nat.or_lt_two_pow (by omega) (by omega)
 exact i64_small (by omega) (by omega)
theorem or_add (a b k:Nat) (hb:b < 2 ^ k):(a * 2 ^ k)||| b=a * 2 ^ k+b:=by
 rw [Nat.mul_comm,Nat.two_pow_add_eq_or_of_lt hb]
theorem and_mod (a k:Nat):a&&& (2 ^ k - 1)=a % 2 ^ k:=Nat.and_two_pow_sub_one_eq_mod a k
end Go.Am
namespace Go.Am
open Go Go.RowKit
variable {P:Program} {C:Ctx} {s s':S} {a a':Act} {w w':World}
theorem evR_inv {envR:EnvR} {nt:Nat} {o:Oper} {xs:List AV} {ok:Option Prop} (h:evR envR nt o s xs=some (s',ok)):
 ∃ hv:AV,s'.sl=pset s.sl o.dst hv/\∀ σ,evR envR nt o { s with sl:=σ } xs=some ({ s' with sl:=pset σ o.dst hv },ok):=by
 unfold evR at h
 split at h
 .split at h
  .split at h
   .try dsimp only at h
    split at h
    .split at h
     .try dsimp only at h
      split at h
      .cases h
       refine ⟨_,rfl,fun σ=>?_⟩
       unfold evR
       simp only [*]
      .cases h
     .cases h
    .cases h
   .cases h
  .cases h
 .cases h
def callOp:Op->Bool
 | .call ⟨.value _,_,_⟩=>true
 | _=>false
theorem astepR_call {env:Env} {envR:EnvR} {nt:Nat} {ops:Array Oper} {rs:List Nat} {i:Nat} {o:Oper} (hi:elemB i rs=true) (hg:o.guard=none) (hc:callOp o.op=true) (s:S):
 astepR P env envR nt ops rs i o s=(evR envR nt o s (o.op.operands.toList.map (aev s.sl))).map fun r=>(r.1,oks none r.2):=by
 unfold astepR
 rw [hi]
 dsimp only
 rw [hg]
 dsimp only
 cases hop:o.op <;> rw [hop] at hc <;> first | cases hc | rfl
def indepC (ops:Array Oper) (rs:List Nat) (y x:Nat) (oy ox:Oper):Bool:=
 !elemB y rs&&elemB x rs&&callOp ox.op&&ox.guard.isNone&&Oper.apart ops oy ox&&pureOp oy.op
theorem swapC {env:Env} {envR:EnvR} {rs:List Nat} {nt:Nat} {ops:Array Oper} {x y:Nat} {ox oy:Oper} {s s1 s2:S} {p1 p2:List Prop} (hi:indepC ops rs y x oy ox=true)
 (h1:astepR P env envR nt ops rs y oy s=some (s1,p1)) (h2:astepR P env envR nt ops rs x ox s1=some (s2,p2)):
 ∃ s1',astepR P env envR nt ops rs x ox s=some (s1',p2)/\astepR P env envR nt ops rs y oy s1'=some (s2,p1):=by
 unfold indepC at hi
 simp only [Bool.and_eq_true,Bool.not_eq_true',Option.isNone_iff_eq_none] at hi
 obtain ⟨⟨⟨⟨⟨hy,hx⟩,hc⟩,hg⟩,hap⟩,hp⟩:=hi
 obtain ⟨a1,a2,a3⟩:=apart_dst hap
 have ey:effOp oy.op=false:=by cases hop:oy.op <;> rw [hop] at hp <;> first | rfl | (simp only [pureOp,reduceCtorEq] at hp)
 have hyA:∀ s,astepR P env envR nt ops rs y oy s=astep P env nt ops oy s:=fun s=>by unfold astepR; rw [hy]
 rw [hyA,astep_val ey] at h1
 obtain ⟨ry,hry,he⟩:=map_some h1
 cases he
 rw [astepR_call hx hg hc] at h2
 obtain ⟨⟨s2',ok⟩,hE,he⟩:=map_some h2
 cases he
 obtain ⟨hv,e1,e2⟩:=evR_inv hE
 have hargs:ox.op.operands.toList.map (aev (pset s.sl oy.dst ry.v))=ox.op.operands.toList.map (aev s.sl):=args_pset a1 s.sl ry.v
 have hE':=e2 s.sl
 have e0:({ aset s oy.dst ry.v with sl:=s.sl }:S)=s:=rfl
 rw [e0] at hE'
 have hargs2:ox.op.operands.toList.map (aev (aset s oy.dst ry.v).sl)=ox.op.operands.toList.map (aev s.sl):=hargs
 rw [hargs2] at hE'
 refine ⟨{ s2' with sl:=pset s.sl ox.dst hv },by rw [astepR_call hx hg hc,hE']; rfl,?_⟩
 rw [hyA,astep_val ey]
 have:vstep P env nt ops oy (pset s.sl ox.dst hv) s2'.ob=some ry:=by
  rw [vstep_pset (P:=P) a3,vstep_pure (ob':=s.ob) hp]; exact hry
 show (vstep P env nt ops oy (pset s.sl ox.dst hv) s2'.ob).map _=_
 rw [this]
 simp only [Option.map_some,aset]
 have e4:pset (pset s.sl ox.dst hv) oy.dst ry.v=s2'.sl:=by
  rw [e1]
  show _=pset (pset s.sl oy.dst ry.v) ox.dst hv
  rw [pset_comm hv ry.v (fun d hd e=>a2 d e hd)]
 rw [e4]
def indepX (ops:Array Oper) (rs:List Nat) (y x:Nat) (oy ox:Oper):Bool:=indepW ops rs y x oy ox||indepC ops rs y x oy ox
theorem swapX {env:Env} {envR:EnvR} {rs:List Nat} {nt:Nat} {ops:Array Oper} {x y:Nat} {ox oy:Oper} {s s1 s2:S} {p1 p2:List Prop} (hi:indepX ops rs y x oy ox=true) (hsem:SemX s ox)
 (h1:astepR P env envR nt ops rs y oy s=some (s1,p1)) (h2:astepR P env envR nt ops rs x ox s1=some (s2,p2)) (hp:All p2):
 ∃ s1',astepR P env envR nt ops rs x ox s=some (s1',p2)/\astepR P env envR nt ops rs y oy s1'=some (s2,p1):=by
 unfold indepX at hi
 rw [Bool.or_eq_true] at hi
 rcases hi with hi | hi
 .exact swapW hi hsem h1 h2 hp
 .exact swapC hi h1 h2
theorem SemX.stepX {env:Env} {envR:EnvR} {rs:List Nat} {nt:Nat} {ops:Array Oper} {x y:Nat} {ox oy:Oper} {s s1:S} {p1:List Prop} (hi:indepX ops rs y x oy ox=true)
 (h1:astepR P env envR nt ops rs y oy s=some (s1,p1)) (hsem:SemX s ox):SemX s1 ox:=by
 unfold indepX at hi
 rw [Bool.or_eq_true] at hi
 rcases hi with hi | hi
 .exact SemX.stepW hi h1 hsem
 .unfold indepC at hi
  simp only [Bool.and_eq_true,Bool.not_eq_true'] at hi
  unfold astepR at h1
  rw [hi.1.1.1.1.1] at h1
  exact SemX.step hi.1.2 h1 hsem
theorem bubbleX {env:Env} {envR:EnvR} {rs:List Nat} {nt:Nat} {ops:Array Oper} {x:Nat} {ox:Oper} (hx:ops[x]?=some ox):∀ (l1 l2:List Nat) (s s':S) (ps:List Prop),
 (∀ y ∈ l1,∀ oy,ops[y]?=some oy->indepX ops rs y x oy ox=true)->SemX s ox->All ps->aopsR P env envR nt ops rs (l1++x::l2) s=some (s',ps)->
 ∃ s1 p1 p2,astepR P env envR nt ops rs x ox s=some (s1,p1)/\aopsR P env envR nt ops rs (l1++l2) s1=some (s',p2)/\(All p1/\All p2)
 | [],l2,s,s',ps,_,_,hps,h=>by
  simp only [List.nil_append,aopsR,hx] at h ⊢
  cases h1:astepR P env envR nt ops rs x ox s with
  | none=>rw [h1] at h; cases h
  | some q=>
   obtain ⟨s1,p1⟩:=q
   rw [h1] at h
   dsimp only at h
   cases h2:aopsR P env envR nt ops rs l2 s1 with
   | none=>rw [h2] at h; cases h
   | some q=>
    obtain ⟨s2,p2⟩:=q
    rw [h2] at h; cases h
    exact ⟨s1,p1,p2,rfl,h2,All.append hps⟩
 | y::l1,l2,s,s',ps,hi,hsem,hps,h=>by
  simp only [List.cons_append,aopsR] at h
  cases hy:ops[y]? with
  | none=>rw [hy] at h; cases h
  | some oy=>
   rw [hy] at h
   dsimp only at h
   cases h1:astepR P env envR nt ops rs y oy s with
   | none=>rw [h1] at h; cases h
   | some q=>
    obtain ⟨s1,p1⟩:=q
    rw [h1] at h
    dsimp only at h
    cases h2:aopsR P env envR nt ops rs (l1++x::l2) s1 with
    | none=>rw [h2] at h; cases h
    | some q=>
     obtain ⟨s2,p2⟩:=q
     rw [h2] at h; cases h
     obtain ⟨u1,u2⟩:=All.append hps
     have hind:=hi y (List.mem_cons_self ..) oy hy
     have hsem1:=SemX.stepX hind h1 hsem
     obtain ⟨t1,q1,q2,b1,b2,b3,b4⟩:=bubbleX hx l1 l2 s1 s' p2 (fun y' hy'=>hi y' (List.mem_cons_of_mem _ hy')) hsem1 u2 h2
     obtain ⟨t0,c1,c2⟩:=swapX hind hsem h1 b1 b3
     refine ⟨t0,q1,p1++q2,c1,?_,b3,All.mk u1 b4⟩
     simp only [List.cons_append,aopsR,hy,c2,b2]
def pairX (ops:Array Oper) (rs:List Nat) (y x:Nat):Bool:=
 ((masks ops.toList []).getD x 0).testBit y||(match ops[y]?,ops[x]? with
  | some oy,some ox=>indepX ops rs y x oy ox
  | _,_=>false)
def noBack (ops:Array Oper) (y x:Nat):Bool:=
 match ops[y]? with
 | some o=>o.after.all fun e=>!Region.binds .any e||!Nat.beq e.on x
 | none=>true
def pairwiseB (f:Nat->Nat->Bool):List Nat->Bool
 | []=>true
 | y::r=>r.all (f y)&&pairwiseB f r
theorem pairwiseB_spec {f:Nat->Nat->Bool}:∀ {l:List Nat},pairwiseB f l=true->l.Pairwise fun y x=>f y x=true
 | [],_=>.nil
 | y::r,h=>by
  simp only [pairwiseB,Bool.and_eq_true] at h
  exact .cons (fun x hx=>List.all_eq_true.1 h.1 x hx) (pairwiseB_spec h.2)
abbrev Pend (ops:Array Oper) (listed:Array Bool) (l:List Nat):Prop:=∀ i,i ∈ l↔i < ops.size/\listed.getD i true=false
theorem pend_set {ops:Array Oper} {listed:Array Bool} {l1 l2:List Nat} {x:Nat} (hsz:listed.size=ops.size) (hlt:x < ops.size) (hl:Pend ops listed (l1++x::l2)) (hnd:(l1++x::l2).Nodup):Pend ops (listed.setIfInBounds x true) (l1++l2):=by
 intro i
 have hi:=hl i
 by_cases hix:x=i
 .subst hix
  have hxs:x < listed.size:=by rw [hsz]; exact hlt
  constructor
  .intro hm
   exfalso
   rw [List.nodup_append] at hnd
   rcases List.mem_append.1 hm with hm | hm
   .exact hnd.2.2 x hm x (List.mem_cons_self ..) rfl
   .exact (List.nodup_cons.1 hnd.2.1).1 hm
  .rintro ⟨_,hh⟩
   simp [hxs] at hh
 .rw [getD_set_ne true hix,<-hi]
  simp only [List.mem_append,List.mem_cons]
  constructor
  .rintro (h | h)
   .exact .inl h
   .exact .inr (.inr h)
  .rintro (h | h | h)
   .exact .inl h
   .exact absurd h.symm hix
   .exact .inr h
theorem closed_set {ops:Array Oper} {listed:Array Bool} {x:Nat} {ox:Oper} (hox:ops[x]?=some ox) (hcl:Closed ops (lsF listed)) (hall:∀ e ∈ ox.after,Region.binds .any e=true->listed.getD e.on false=true):Closed ops (lsF (listed.setIfInBounds x true)):=by
 intro y hy o ho e he hb
 simp only [lsF] at hy ⊢
 by_cases hyx:x=y
 .subst hyx
  rw [hox] at ho; cases ho
  exact getD_set_true (hall e he hb)
 .rw [getD_set_ne false hyx] at hy
  exact getD_set_true (hcl y hy o ho e he hb)
theorem pairX_use {ops:Array Oper} {rs:List Nat} {listed:Array Bool} {x y:Nat} {ox oy:Oper} (hsz:listed.size=ops.size) (h:pairX ops rs y x=true) (hox:ops[x]?=some ox) (hoy:ops[y]?=some oy)
 (hcl:Closed ops (lsF listed)) (hall:∀ e ∈ ox.after,Region.binds .any e=true->listed.getD e.on false=true) (hny:y < ops.size/\listed.getD y true=false):indepX ops rs y x oy ox=true:=by
 unfold pairX at h
 rw [hox,hoy,Bool.or_eq_true] at h
 rcases h with h | h
 .exfalso
  cases hm:(masks ops.toList [])[x]? with
  | none=>rw [List.getD_eq_getElem?_getD,hm] at h; simp at h
  | some m=>
   rw [List.getD_eq_getElem?_getD,hm] at h
   have:=masks_ok (ops:=ops) ops.toList [] (fun i o ho=>by simpa using ho) (fun x m hx=>by simp at hx) x m hm (lsF listed) hcl (fun o ho e he hb=>by rw [hox] at ho; cases ho; exact hall e he hb) y h
   simp only [lsF] at this
   have hy2:y < listed.size:=by rw [hsz]; exact hny.1
   have h2:=hny.2
   simp only [Array.getD,hy2,dif_pos] at this h2
   rw [this] at h2; cases h2
 .exact h
theorem head_ready {ops:Array Oper} {listed:Array Bool} {x:Nat} {r:List Nat} (hsz:listed.size=ops.size) (hl:Pend ops listed (x::r)) (hb:∀ z ∈ r,noBack ops x z=true)
 (hbk:∀ (x:Nat) (o:Oper),ops[x]?=some o->∀ e ∈ o.after,Region.binds .any e=true->e.on < x):x ∈ Region.ready .any ops listed:=by
 have hxm:=(hl x).1 (List.mem_cons_self ..)
 have hox:ops[x]?=some ops[x]:=Array.getElem?_eq_getElem hxm.1
 refine mem_ready.2 ⟨hxm.2,_,hox,fun e he hbi=>?_⟩
 have hlt:=hbk x _ hox e he hbi
 cases hle':listed.getD e.on false with
 | true=>rfl
 | false=>
  exfalso
  have he2:e.on < ops.size:=Nat.lt_trans hlt hxm.1
  have hmem:e.on ∈ x::r:=by
   refine (hl e.on).2 ⟨he2,?_⟩
   have hlt3:e.on < listed.size:=by rw [hsz]; exact he2
   simpa [Array.getD,hlt3] using hle'
  rcases List.mem_cons.1 hmem with h3 | h3
  .omega
  .have h4:=hb _ h3
   unfold noBack at h4
   rw [hox] at h4
   have h5:=Array.all_eq_true_iff_forall_mem.1 h4 e he
   rw [hbi] at h5
   simp at h5
abbrev okX (ops:Array Oper) (rs:List Nat) (ex:Nat->Nat->Bool) (y x:Nat):Bool:=(pairX ops rs y x||ex y x)&&noBack ops y x
theorem aopsS_any {env:Env} (henv:EnvOk P env) {envR:EnvR} (henvR:EnvROk P envR) {rs:List Nat} {ops:Array Oper} {Q:Exit->Act->World->Prop} {s':S}
 (hq:∀ a' w',St C s' a' w'->Q .normal a' w') (hbk:∀ (x:Nat) (o:Oper),ops[x]?=some o->∀ e ∈ o.after,Region.binds .any e=true->e.on < x):∀ (fuel:Nat) (listed:Array Bool) (l:List Nat) (s:S) (ps:List Prop) (a:Act) (w:World),
 listed.size=ops.size->Pend ops listed l->l.Nodup->l.Pairwise (fun y x=>okX ops rs (fun _ _=>false) y x=true)->Closed ops (lsF listed)->l.length<=fuel->
 aopsR P env envR C.nt ops rs l s=some (s',ps)->All ps->St C s a w->wpAnyIn (FW C.rd) 0 P .any ops Q fuel listed a w:=by
 intro fuel
 induction fuel with
 | zero=>
  intro listed l s ps a w hsz hl hnd hpw hcl hle h hps hs
  have:l=[]:=List.length_eq_zero_iff.1 (Nat.le_zero.1 hle)
  subst this
  cases h
  refine ⟨?_,hq a w hs⟩
  refine List.eq_nil_iff_forall_not_mem.2 fun j hj=>?_
  obtain ⟨h0,o,ho,_⟩:=mem_ready.1 hj
  exact absurd ((hl j).2 ⟨(Array.getElem?_eq_some_iff.1 ho).1,h0⟩) (by simp)
 | succ fuel ih=>
  intro listed l s ps a w hsz hl hnd hpw hcl hle h hps hs
  refine ⟨fun hr=>?_,fun x hx=>?_⟩
  .cases l with
   | nil=>cases h; exact hq a w hs
   | cons x r=>
    exfalso
    have:x ∈ Region.ready .any ops listed:=head_ready hsz hl (fun z hz=>by
     have:=List.rel_of_pairwise_cons hpw hz
     unfold okX at this
     rw [Bool.and_eq_true] at this; exact this.2) hbk
    rw [hr] at this; cases this
  .obtain ⟨h0,ox,hox,hall⟩:=mem_ready.1 hx
   have hlt:=(Array.getElem?_eq_some_iff.1 hox).1
   obtain ⟨l1,l2,rfl⟩:=List.append_of_mem ((hl x).2 ⟨hlt,h0⟩)
   have hpp:=List.pairwise_append.1 hpw
   have hind:∀ y ∈ l1,∀ oy,ops[y]?=some oy->indepX ops rs y x oy ox=true:=fun y hy oy hoy=>by
    have h1:=hpp.2.2 y hy x (List.mem_cons_self ..)
    unfold okX at h1
    simp only [Bool.or_false,Bool.and_eq_true] at h1
    exact pairX_use hsz h1.1 hox hoy hcl hall ((hl y).1 (List.mem_append_left _ hy))
   obtain ⟨s1,p1,p2,b1,b2,hp1,hp2⟩:=bubbleX hox l1 l2 s s' ps hind (hs.sem ox) hps h
   have step:=astepR_sound henv henvR b1 hp1 hs (next:=wpAnyIn (FW C.rd) 0 P .any ops Q fuel (listed.setIfInBounds x true)) (Q:=Q) fun a' w' hs'=>
    ih (listed.setIfInBounds x true) (l1++l2) s1 p2 a' w' (by simpa using hsz) (pend_set hsz hlt hl hnd) (hnd.sublist (List.Sublist.append (List.Sublist.refl _) (List.sublist_cons_self ..)))
     (List.Pairwise.sublist (List.Sublist.append (List.Sublist.refl _) (List.sublist_cons_self ..)) hpw) (closed_set hox hcl hall) (by simp only [List.length_append,List.length_cons] at hle ⊢; omega) b2 hp2 hs'
   unfold wpOpIn
   rw [hox]
   dsimp only
   split
   .rename_i hw; rw [if_pos hw] at step; exact step
   .rename_i hw; rw [if_neg hw] at step; exact ⟨fun _ _=>trivial,step⟩
def exP (p q y x:Nat):Bool:=Nat.beq y p&&Nat.beq x q
theorem aopsD_any {env:Env} (henv:EnvOk P env) {envR:EnvR} (henvR:EnvROk P envR) {rs:List Nat} {ops:Array Oper} {Q:Exit->Act->World->Prop} {sA sB:S} {p q:Nat} (hne:p≠q)
 (hqA:∀ a' w',St C sA a' w'->Q .normal a' w') (hqB:∀ a' w',St C sB a' w'->Q .normal a' w') (hbk:∀ (x:Nat) (o:Oper),ops[x]?=some o->∀ e ∈ o.after,Region.binds .any e=true->e.on < x):
 ∀ (fuel:Nat) (listed:Array Bool) (lA lB:List Nat) (s:S) (psA psB:List Prop) (a:Act) (w:World),
 listed.size=ops.size->Pend ops listed lA->Pend ops listed lB->lA.Nodup->lB.Nodup->lA.Pairwise (fun y x=>okX ops rs (exP p q) y x=true)->lB.Pairwise (fun y x=>okX ops rs (exP q p) y x=true)->
 Closed ops (lsF listed)->lA.length<=fuel->lB.length<=fuel->
 aopsR P env envR C.nt ops rs lA s=some (sA,psA)->aopsR P env envR C.nt ops rs lB s=some (sB,psB)->All psA->All psB->St C s a w->wpAnyIn (FW C.rd) 0 P .any ops Q fuel listed a w:=by
 intro fuel
 induction fuel with
 | zero=>
  intro listed lA lB s psA psB a w hsz hlA hlB hnA hnB hpA hpB hcl hleA hleB hA hB hpsA hpsB hs
  have:lA=[]:=List.length_eq_zero_iff.1 (Nat.le_zero.1 hleA)
  subst this
  cases hA
  refine ⟨?_,hqA a w hs⟩
  refine List.eq_nil_iff_forall_not_mem.2 fun j hj=>?_
  obtain ⟨h0,o,ho,_⟩:=mem_ready.1 hj
  exact absurd ((hlA j).2 ⟨(Array.getElem?_eq_some_iff.1 ho).1,h0⟩) (by simp)
 | succ fuel ih=>
  intro listed lA lB s psA psB a w hsz hlA hlB hnA hnB hpA hpB hcl hleA hleB hA hB hpsA hpsB hs
  have split2:∀ {l:List Nat} {x:Nat},Pend ops listed l->x < ops.size/\listed.getD x true=false->∃ l1 l2,l=l1++x::l2:=fun hl h=>List.append_of_mem ((hl _).2 h)
  refine ⟨fun hr=>?_,fun x hx=>?_⟩
  .cases lA with
   | nil=>cases hA; exact hqA a w hs
   | cons x r=>
    exfalso
    have:x ∈ Region.ready .any ops listed:=head_ready hsz hlA (fun z hz=>by
     have:=List.rel_of_pairwise_cons hpA hz
     unfold okX at this
     rw [Bool.and_eq_true] at this; exact this.2) hbk
    rw [hr] at this; cases this
  .obtain ⟨h0,ox,hox,hall⟩:=mem_ready.1 hx
   have hlt:=(Array.getElem?_eq_some_iff.1 hox).1
   have go:∀ {l1 l2:List Nat} {sE:S} {psE:List Prop} {u v:Nat},Pend ops listed (l1++x::l2)->(l1++x::l2).Pairwise (fun y x=>okX ops rs (exP u v) y x=true)->x≠v->aopsR P env envR C.nt ops rs (l1++x::l2) s=some (sE,psE)->All psE->
    ∃ s1 p1 p2,astepR P env envR C.nt ops rs x ox s=some (s1,p1)/\aopsR P env envR C.nt ops rs (l1++l2) s1=some (sE,p2)/\(All p1/\All p2):=by
    intro l1 l2 sE psE u v hl hpw hxv h hps
    have hpp:=List.pairwise_append.1 hpw
    refine bubbleX hox l1 l2 s sE psE (fun y hy oy hoy=>?_) (hs.sem ox) hps h
    have h1:=hpp.2.2 y hy x (List.mem_cons_self ..)
    unfold okX exP at h1
    rw [Bool.and_eq_true,Bool.or_eq_true] at h1
    rcases h1.1 with h1 | h1
    .exact pairX_use hsz h1 hox hoy hcl hall ((hl y).1 (List.mem_append_left _ hy))
    .rw [Bool.and_eq_true] at h1
     exact absurd (Nat.eq_of_beq_eq_true h1.2) hxv
   have fin:∀ {s1:S} {p1:List Prop},astepR P env envR C.nt ops rs x ox s=some (s1,p1)->All p1->(∀ a' w',St C s1 a' w'->wpAnyIn (FW C.rd) 0 P .any ops Q fuel (listed.setIfInBounds x true) a' w')->
    wpOpIn (FW C.rd) 0 P ops Q x (wpAnyIn (FW C.rd) 0 P .any ops Q fuel (listed.setIfInBounds x true)) a w:=by
    intro s1 p1 b1 hp1 hn
    have step:=astepR_sound henv henvR b1 hp1 hs (next:=wpAnyIn (FW C.rd) 0 P .any ops Q fuel (listed.setIfInBounds x true)) (Q:=Q) hn
    unfold wpOpIn
    rw [hox]
    dsimp only
    split
    .rename_i hw; rw [if_pos hw] at step; exact step
    .rename_i hw; rw [if_neg hw] at step; exact ⟨fun _ _=>trivial,step⟩
   obtain ⟨a1,a2,rfl⟩:=split2 hlA ⟨hlt,h0⟩
   obtain ⟨b1,b2,rfl⟩:=split2 hlB ⟨hlt,h0⟩
   have subA:(a1++a2).Sublist (a1++x::a2):=List.Sublist.append (List.Sublist.refl _) (List.sublist_cons_self ..)
   have subB:(b1++b2).Sublist (b1++x::b2):=List.Sublist.append (List.Sublist.refl _) (List.sublist_cons_self ..)
   have one:∀ {l1 l2:List Nat} {u v:Nat},(l1++x::l2).Nodup->(l1++x::l2).Pairwise (fun y x=>okX ops rs (exP u v) y x=true)->x=u->(l1++l2).Pairwise (fun y x=>okX ops rs (fun _ _=>false) y x=true):=by
    intro l1 l2 u v hnd hpw hxu
    have h1:=List.Pairwise.sublist (List.Sublist.append (List.Sublist.refl l1) (List.sublist_cons_self x l2)) hpw
    have hnx:∀ y ∈ l1++l2,y≠x:=by
     intro y hy e
     subst e
     rw [List.nodup_append] at hnd
     rcases List.mem_append.1 hy with hm | hm
     .exact hnd.2.2 y hm y (List.mem_cons_self ..) rfl
     .exact (List.nodup_cons.1 hnd.2.1).1 hm
    refine (List.pairwise_iff_forall_sublist.2 fun {y z} hyz=>?_)
    have h2:=List.pairwise_iff_forall_sublist.1 h1 hyz
    unfold okX exP at h2
    unfold okX
    rw [Bool.and_eq_true,Bool.or_eq_true] at h2
    rw [Bool.or_false,Bool.and_eq_true]
    refine ⟨?_,h2.2⟩
    rcases h2.1 with h3 | h3
    .exact h3
    .rw [Bool.and_eq_true] at h3
     exact absurd ((Nat.eq_of_beq_eq_true h3.1).trans hxu.symm) (hnx y (hyz.subset (by simp)))
   have lenA:(a1++a2).length<=fuel:=by simp only [List.length_append,List.length_cons] at hleA ⊢; omega
   have lenB:(b1++b2).length<=fuel:=by simp only [List.length_append,List.length_cons] at hleB ⊢; omega
   by_cases hxq:x=q
   . -- 'q' comes first:the second order
    have hpq:x≠p:=fun e=>hne (e.symm.trans hxq)
    obtain ⟨s1,p1,p2,c1,c2,hp1,hp2⟩:=go hlB hpB hpq hB hpsB
    refine fin c1 hp1 fun a' w' hs'=>aopsS_any henv henvR hqB hbk fuel _ (b1++b2) s1 p2 a' w' (by simpa using hsz) (pend_set hsz hlt hlB hnB) (hnB.sublist subB) (one hnB hpB hxq) (closed_set hox hcl hall) lenB c2 hp2 hs'
   .obtain ⟨s1,p1,p2,c1,c2,hp1,hp2⟩:=go hlA hpA hxq hA hpsA
    by_cases hxp:x=p
    .refine fin c1 hp1 fun a' w' hs'=>aopsS_any henv henvR hqA hbk fuel _ (a1++a2) s1 p2 a' w' (by simpa using hsz) (pend_set hsz hlt hlA hnA) (hnA.sublist subA) (one hnA hpA hxp) (closed_set hox hcl hall) lenA c2 hp2 hs'
    .obtain ⟨s1',p1',p2',d1,d2,hp1',hp2'⟩:=go hlB hpB hxp hB hpsB
     rw [c1] at d1
     cases d1
     exact fin c1 hp1 fun a' w' hs'=>ih _ (a1++a2) (b1++b2) s1 p2 p2' a' w' (by simpa using hsz) (pend_set hsz hlt hlA hnA) (pend_set hsz hlt hlB hnB) (hnA.sublist subA) (hnB.sublist subB)
      (List.Pairwise.sublist subA hpA) (List.Pairwise.sublist subB hpB) (closed_set hox hcl hall) lenA lenB c2 d2 hp2 hp2' hs'
def drawOkD (ops:Array Oper) (rs:List Nat) (p q:Nat) (lB:List Nat):Bool:=
 !Nat.beq p q&&(pairwiseB (okX ops rs (exP p q)) (List.range ops.size)&&(pairwiseB (okX ops rs (exP q p)) lB&&(nodupB lB&&((List.range ops.size).all (fun i=>elemB i lB)&&(lB.all (fun i=>Nat.blt i ops.size)&&Nat.ble lB.length ops.size)))))
theorem nodupB_spec:∀ {l:List Nat},nodupB l=true->l.Nodup
 | [],_=>.nil
 | x::r,h=>by
  simp only [nodupB,Bool.and_eq_true] at h
  refine List.nodup_cons.2 ⟨fun hm=>?_,nodupB_spec h.2⟩
  have h1:=h.1
  simp [] at h1
  first | exact h1 x hm rfl | (have:=h1 x hm; simp at this) | (have:=h1 hm; simp at this)
theorem T_regiondD {env:Env} (henv:EnvOk P env) {envR:EnvR} (henvR:EnvROk P envR) {rs:List Nat} (hm:P.follows .mixedOrders=true) {id:Nat} {ops:Array Oper} {Q:Exit->S->Prop} {sA sB:S} {psA psB:List Prop} {p q:Nat} {lB:List Nat}
 (hk:drawOkD ops rs p q lB=true) (hb:backOkW ops=true)
 (hA:aopsR P env envR C.nt ops rs (List.range ops.size) s=some (sA,psA)) (hB:aopsR P env envR C.nt ops rs lB s=some (sB,psB)) (hpA:All psA) (hpB:All psB) (hqA:Q .normal sA) (hqB:Q .normal sB):T P C (.region id ops true) s Q:=by
 intro a w hs
 unfold drawOkD at hk
 simp only [Bool.and_eq_true,Bool.not_eq_true'] at hk
 obtain ⟨h0,h1,h2,h3,h4,h5,h6⟩:=hk
 have hne:p≠q:=fun e=>by rw [e,Nat.beq_refl] at h0; cases h0
 have hnB:=nodupB_spec h3
 have hin:∀ i,i ∈ lB↔i < ops.size:=fun i=>⟨fun hi=>Nat.le_of_ble_eq_true (List.all_eq_true.1 h5 i hi),fun hi=>elemB_spec.1 (List.all_eq_true.1 h4 i (List.mem_range.2 hi))⟩
 have hlen:lB.length<=ops.size:=Nat.le_of_ble_eq_true h6
 have pend:∀ {l:List Nat},(∀ i,i ∈ l↔i < ops.size)->Pend ops (Array.replicate ops.size false) l:=by
  intro l hl i
  rw [hl i]
  constructor
  .intro hi; exact ⟨hi,by simp [hi]⟩
  .exact fun h=>h.1
 refine wpIn_region_any hm ?_
 refine aopsD_any henv henvR hne (fun a' w' hs'=>⟨sA,hqA,hs'⟩) (fun a' w' hs'=>⟨sB,hqB,hs'⟩) (backOkW_spec hb) ops.size _ (List.range ops.size) lB s psA psB a _ (by simp) (pend fun i=>List.mem_range) (pend hin) List.nodup_range hnB
  (pairwiseB_spec h1) (pairwiseB_spec h2) ?_ (by simp) hlen hA hB hpA hpB hs.drew
 intro x hx
 exfalso
 simp only [lsF] at hx
 rw [Array.getD_eq_getD_getElem?,Array.getElem?_replicate] at hx
 split at hx <;> simp at hx
end Go.Am
namespace Go.Am
open Go Go.RowKit
variable {P:Program} {C:Ctx} {s s':S} {a a':Act} {w w':World}
def storeOp:Op->Bool
 | .store _ _ _=>true
 | _=>false
def readOp:Op->Bool
 | .load _ _=>true
 | .indexAddr _ _ _=>true
 | _=>false
def headId:List AV->Option Nat
 | .ref id _::_=>some id
 | .aptr id _ _::_=>some id
 | _=>none
def offB (id:Nat):AV->Bool
 | .ref j _=>!Nat.beq j id
 | .aptr j _ _=>!Nat.beq j id
 | .arr j=>!Nat.beq j id
 | .p _=>true
 | _=>false
def sepB (ys xs:List AV):Bool:=match headId xs with
 | some id=>ys.all (offB id)
 | none=>false
theorem strip_off {id:Nat}:∀ {ys:List AV},ys.all (offB id)=true->strip none ys=(ys,[])
 | [],_=>rfl
 | y::r,h=>by
  rw [List.all_cons,Bool.and_eq_true] at h
  have h2:=strip_off h.2
  cases y <;> first | (simp only [offB,Bool.false_eq_true] at h; exact absurd h.1 (by decide)) | (simp only [strip,strip1,h2]; rfl)
theorem headId_strip {xs:List AV} {id:Nat} (h:headId xs=some id):headId (strip none xs).1=some id:=by
 cases xs with
 | nil=>cases h
 | cons x r=>cases x <;> first | exact h | cases h
theorem evLoad_off {ob:Nat->Option AObj} {id:Nat} {o:Option AObj} {t:TypeId} {ys:List AV} (h:ys.all (offB id)=true):evLoad P (upd ob id o) t ys=evLoad P ob t ys:=by
 cases ys with
 | nil=>rfl
 | cons y r=>
  rw [List.all_cons,Bool.and_eq_true] at h
  cases r with
  | nil=>
   cases y with
   | ref j k=>
    have hj:j≠id:=fun e=>by have h1:=h.1; rw [e] at h1; simp [offB] at h1
    simp only [evLoad,upd_ne _ _ hj]
   | aptr j k l=>
    have hj:j≠id:=fun e=>by have h1:=h.1; rw [e] at h1; simp [offB] at h1
    simp only [evLoad,upd_ne _ _ hj]
   | p x=>cases x <;> rfl
   | _=>rfl
  | cons z r=>cases y <;> first | rfl | (rename_i x; cases x <;> rfl)
theorem evIx_off {ob:Nat->Option AObj} {id:Nat} {o:Option AObj} {t:TypeId} {ys:List AV} (h:ys.all (offB id)=true):evIndexAddrL P (upd ob id o) t ys=evIndexAddrL P ob t ys:=by
 cases ys with
 | nil=>rfl
 | cons y r=>
  rw [List.all_cons,Bool.and_eq_true] at h
  cases y with
  | arr j=>
   have hj:j≠id:=fun e=>by have h1:=h.1; rw [e] at h1; simp [offB] at h1
   cases r with
   | nil=>rfl
   | cons z r=>
    cases r with
    | nil=>cases z <;> first | rfl | (rename_i x; cases x <;> first | rfl | simp only [evIndexAddrL,upd_ne _ _ hj])
    | cons _ _=>cases z <;> first | rfl | (rename_i x; cases x <;> rfl)
  | _=>rfl
theorem evV_off {env:Env} {ob:Nat->Option AObj} {id:Nat} {o:Option AObj} {op:Op} {ys:List AV} (hop:readOp op=true) (h:ys.all (offB id)=true):evV P env (upd ob id o) op ys=evV P env ob op ys:=by
 unfold evV
 cases op <;> simp only [readOp,Bool.false_eq_true] at hop
 .simp only [evL,evLoad_off h,evC]
 .simp only [evL,evIx_off h,evC]
theorem evStore_id {ob:Nat->Option AObj} {t:TypeId} {xs:List AV} {id:Nat} {r:Nat×AObj×Option Prop} (hi:headId xs=some id) (h:evStore P ob t xs=some r):r.1=id:=by
 unfold evStore at h
 repeat' split at h
 all_goals first | cases h | skip
 all_goals (simp only [headId,Option.some.injEq] at hi; exact hi)
theorem swapS {env:Env} {nt:Nat} {ops:Array Oper} {x y:Oper} {s s1 s2:S} {p1 p2:List Prop} (hap:Oper.apart ops y x=true) (hy:readOp y.op=true) (hx:storeOp x.op=true) (hyg:y.guard=none)
 (hsep:sepB (argsOf s y) (argsOf s x)=true) (h1:astep P env nt ops y s=some (s1,p1)) (h2:astep P env nt ops x s1=some (s2,p2)):
 ∃ s1',astep P env nt ops x s=some (s1',p2)/\astep P env nt ops y s1'=some (s2,p1):=by
 obtain ⟨a1,a2,a3⟩:=apart_dst hap
 have ey:effOp y.op=false:=by cases hop:y.op <;> rw [hop] at hy <;> first | rfl | cases hy
 have ex:effOp x.op=true:=by cases hop:x.op <;> rw [hop] at hx <;> first | rfl | cases hx
 rw [astep_val ey] at h1
 obtain ⟨ry,hry,he⟩:=map_some h1
 cases he
 rw [astep_eff ex] at h2
 obtain ⟨hv,e1,e2,_⟩:=estep_inv h2
 have hs:=e2 s.sl (guard_pset a1 s.sl ry.v).symm (args_pset a1 s.sl ry.v).symm
 refine ⟨{ s2 with sl:=pset s.sl x.dst hv },by rw [astep_eff ex]; exact hs,?_⟩
 rw [astep_val ey]
 have hob:∃ id o,s2.ob=upd s.ob id o/\headId (argsOf s x)=some id:=by
  unfold sepB at hsep
  split at hsep
  .rename_i id hid
   unfold estep at hs
   split at hs
   .obtain ⟨⟨s3,ok⟩,hE,he⟩:=map_some hs
    have hs3:s3.ob=s2.ob:=by
     have:=congrArg (fun q:S×List Prop=>q.1.ob) he
     exact this
    unfold evE at hE
    cases hop:x.op <;> rw [hop] at hx hE <;> first | cases hx | skip
    rename_i t u v
    dsimp only at hE
    split at hE
    .obtain ⟨r,hr,hr2⟩:=map_some hE
     have hid2:headId (strip none (argsOf s x)).1=some id:=headId_strip hid
     have hr3:r.1=id:=by
      refine evStore_id (P:=P) hid2 (r:=r) (ob:=s.ob) (t:=t) ?_
      unfold argsOf
      rw [hop]
      exact hr
     cases hr2
     refine ⟨id,some r.2.1,?_,hid⟩
     rw [<-hr3]; exact hs3.symm
    .cases hE
   .cases hs
  .cases hsep
 obtain ⟨id,o,hob,hid⟩:=hob
 have hoff:(argsOf s y).all (offB id)=true:=by
  unfold sepB at hsep
  rw [hid] at hsep
  exact hsep
 have hmem:vstep P env nt ops y s.sl s2.ob=some ry:=by
  rw [hob,<-hry]
  have hg:guardOf ops s.sl y=some none:=by unfold guardOf; rw [hyg]
  have hst:stripOp none y.op (y.op.operands.toList.map (aev s.sl))=(argsOf s y,[]):=by
   have:stripOp none y.op (argsOf s y)=strip none (argsOf s y):=by
    cases hop:y.op <;> rw [hop] at hy <;> first | rfl | cases hy
   exact this.trans (strip_off hoff)
  unfold vstep
  rw [hg]
  cases dstOk nt y.dst with
  | false=>rfl
  | true=>
   dsimp only
   rw [hst]
   dsimp only
   rw [evV_off hy hoff]
 have:vstep P env nt ops y (pset s.sl x.dst hv) s2.ob=some ry:=by
  rw [vstep_pset (P:=P) a3]; exact hmem
 show (vstep P env nt ops y (pset s.sl x.dst hv) s2.ob).map _=_
 rw [this]
 simp only [Option.map_some,aset]
 have e4:pset (pset s.sl x.dst hv) y.dst ry.v=s2.sl:=by
  rw [e1]
  show _=pset (pset s.sl y.dst ry.v) x.dst hv
  rw [pset_comm hv ry.v (fun d hd e=>a2 d e hd)]
 rw [e4]
def argsAt (σ:Nat->AV) (o:Oper):List AV:=o.op.operands.toList.map (aev σ)
def freeB (ops:Array Oper) (k:Nat) (o:Oper):Bool:=(List.range ops.size).all fun i=>Nat.blt i k||match ops[i]? with
 | some p=>(match p.dst with
  | some d=>(Oper.looksAt ops o).all fun t=>!Nat.beq t d
  | none=>true)
 | none=>true
theorem freeB_spec {ops:Array Oper} {k:Nat} {o:Oper} (h:freeB ops k o=true) {i:Nat} {p:Oper} (hk:k<=i) (hi:ops[i]?=some p) {t:Nat} (ht:t ∈ Oper.looksAt ops o):p.dst≠some t:=by
 intro hd
 have h1:=List.all_eq_true.1 h i (List.mem_range.2 (Array.getElem?_eq_some_iff.1 hi).1)
 rw [hi] at h1
 dsimp only at h1
 rw [hd,Bool.or_eq_true] at h1
 rcases h1 with h1 | h1
 .have:i < k:=by simpa [Nat.blt_eq] using h1
  omega
 .have h2:=List.all_eq_true.1 h1 t ht
  simp at h2
def indS (ops:Array Oper) (σ:Nat->AV) (y x:Nat) (oy ox:Oper):Bool:=
 Oper.apart ops oy ox&&(readOp oy.op&&(storeOp ox.op&&(oy.guard.isNone&&(sepB (argsAt σ oy) (argsAt σ ox)&&(freeB ops y oy&&freeB ops x ox)))))
def indV (ops:Array Oper) (rs:List Nat) (σ:Nat->AV) (y x:Nat) (oy ox:Oper):Bool:=indepW ops rs y x oy ox||(rs.isEmpty&&indS ops σ y x oy ox)
theorem indV_apart {ops:Array Oper} {rs:List Nat} {σ:Nat->AV} {y x:Nat} {oy ox:Oper} (h:indV ops rs σ y x oy ox=true):elemB y rs=false/\Oper.apart ops oy ox=true:=by
 unfold indV at h
 rw [Bool.or_eq_true] at h
 rcases h with h | h
 .obtain ⟨h1,_,_,h4⟩:=indepW_spec h; exact ⟨h1,h4⟩
 .unfold indS at h
  simp only [Bool.and_eq_true] at h
  obtain ⟨h0,h1,_⟩:=h
  cases rs with
  | nil=>exact ⟨rfl,h1⟩
  | cons _ _=>cases h0
theorem astep_sl {env:Env} {nt:Nat} {ops:Array Oper} {o:Oper} {s s1:S} {p:List Prop} (h:astep P env nt ops o s=some (s1,p)):∃ v,s1.sl=pset s.sl o.dst v:=by
 cases he:effOp o.op with
 | false=>
  rw [astep_val he] at h
  obtain ⟨r,_,h2⟩:=map_some h
  cases h2
  exact ⟨r.v,rfl⟩
 | true=>
  rw [astep_eff he] at h
  obtain ⟨hv,e1,_⟩:=estep_inv h
  exact ⟨hv,e1⟩
theorem aops_sl {env:Env} {envR:EnvR} {nt:Nat} {ops:Array Oper} {t:Nat}:∀ (l:List Nat) (s s':S) (ps:List Prop),aopsR P env envR nt ops [] l s=some (s',ps)->(∀ i ∈ l,∀ o,ops[i]?=some o->o.dst≠some t)->s'.sl t=s.sl t
 | [],s,s',ps,h,_=>by
  simp only [aopsR] at h
  cases h; rfl
 | i::l,s,s',ps,h,hd=>by
  simp only [aopsR] at h
  cases hi:ops[i]? with
  | none=>rw [hi] at h; cases h
  | some o=>
   rw [hi] at h
   dsimp only at h
   cases h1:astepR P env envR nt ops [] i o s with
   | none=>rw [h1] at h; cases h
   | some q=>
    obtain ⟨s1,p1⟩:=q
    rw [h1] at h
    dsimp only at h
    cases h2:aopsR P env envR nt ops [] l s1 with
    | none=>rw [h2] at h; cases h
    | some q=>
     obtain ⟨s2,p2⟩:=q
     rw [h2] at h; cases h
     have h1':astep P env nt ops o s=some (s1,p1):=h1
     obtain ⟨v,hv⟩:=astep_sl h1'
     rw [aops_sl l s1 s' p2 h2 fun j hj=>hd j (List.mem_cons_of_mem _ hj),hv]
     have hn:=hd i (List.mem_cons_self ..) o hi
     cases hdst:o.dst with
     | none=>rfl
     | some d=>exact upd_ne _ _ fun e=>hn (by rw [hdst,e])
theorem args_agree {ops:Array Oper} {o:Oper} {σ σ':Nat->AV} (h:∀ t ∈ Oper.looksAt ops o,σ t=σ' t):argsAt σ o=argsAt σ' o:=by
 refine List.map_congr_left fun x hx=>?_
 cases x with
 | tmp t=>exact h t (List.mem_append_left _ (List.mem_filterMap.2 ⟨.tmp t,hx,rfl⟩))
 | _=>rfl
theorem SemX.stepV {env:Env} {envR:EnvR} {rs:List Nat} {nt:Nat} {ops:Array Oper} {x y:Nat} {ox oy:Oper} {σ:Nat->AV} {s s1:S} {p1:List Prop} (hi:indV ops rs σ y x oy ox=true)
 (h1:astepR P env envR nt ops rs y oy s=some (s1,p1)) (hsem:SemX s ox):SemX s1 ox:=by
 obtain ⟨hy,hap⟩:=indV_apart hi
 unfold astepR at h1
 rw [hy] at h1
 exact SemX.step hap h1 hsem
theorem swapV {env:Env} {envR:EnvR} {rs:List Nat} {nt:Nat} {ops:Array Oper} {x y:Nat} {ox oy:Oper} {σ:Nat->AV} {s s1 s2:S} {p1 p2:List Prop} (hi:indV ops rs σ y x oy ox=true)
 (hσ:rs=[]->indS ops σ y x oy ox=true->sepB (argsOf s oy) (argsOf s ox)=true) (hsem:SemX s ox)
 (h1:astepR P env envR nt ops rs y oy s=some (s1,p1)) (h2:astepR P env envR nt ops rs x ox s1=some (s2,p2)) (hp:All p2):
 ∃ s1',astepR P env envR nt ops rs x ox s=some (s1',p2)/\astepR P env envR nt ops rs y oy s1'=some (s2,p1):=by
 unfold indV at hi
 rw [Bool.or_eq_true] at hi
 rcases hi with hi | hi
 .exact swapW hi hsem h1 h2 hp
 .rw [Bool.and_eq_true] at hi
  obtain ⟨h0,hi⟩:=hi
  cases rs with
  | cons _ _=>cases h0
  | nil=>
   have hs:=hσ rfl hi
   unfold indS at hi
   simp only [Bool.and_eq_true,Option.isNone_iff_eq_none] at hi
   obtain ⟨k1,k2,k3,k4,_⟩:=hi
   exact swapS k1 k2 k3 k4 hs h1 h2
theorem bubbleS {env:Env} {envR:EnvR} {rs:List Nat} {nt:Nat} {ops:Array Oper} {x:Nat} {ox:Oper} (hx:ops[x]?=some ox):∀ (l1 l2:List Nat) (s s':S) (ps:List Prop),(l1++x::l2).Pairwise (· < ·)->
 (∀ y ∈ l1,∀ oy,ops[y]?=some oy->indV ops rs s'.sl y x oy ox=true)->SemX s ox->All ps->aopsR P env envR nt ops rs (l1++x::l2) s=some (s',ps)->
 ∃ s1 p1 p2,astepR P env envR nt ops rs x ox s=some (s1,p1)/\aopsR P env envR nt ops rs (l1++l2) s1=some (s',p2)/\(All p1/\All p2)
 | [],l2,s,s',ps,_,_,_,hps,h=>by
  simp only [List.nil_append,aopsR,hx] at h ⊢
  cases h1:astepR P env envR nt ops rs x ox s with
  | none=>rw [h1] at h; cases h
  | some q=>
   obtain ⟨s1,p1⟩:=q
   rw [h1] at h
   dsimp only at h
   cases h2:aopsR P env envR nt ops rs l2 s1 with
   | none=>rw [h2] at h; cases h
   | some q=>
    obtain ⟨s2,p2⟩:=q
    rw [h2] at h; cases h
    exact ⟨s1,p1,p2,rfl,h2,All.append hps⟩
 | y::l1,l2,s,s',ps,hsort,hi,hsem,hps,h=>by
  have hfull:=h
  simp only [List.cons_append,aopsR] at h
  cases hy:ops[y]? with
  | none=>rw [hy] at h; cases h
  | some oy=>
   rw [hy] at h
   dsimp only at h
   cases h1:astepR P env envR nt ops rs y oy s with
   | none=>rw [h1] at h; cases h
   | some q=>
    obtain ⟨s1,p1⟩:=q
    rw [h1] at h
    dsimp only at h
    cases h2:aopsR P env envR nt ops rs (l1++x::l2) s1 with
    | none=>rw [h2] at h; cases h
    | some q=>
     obtain ⟨s2,p2⟩:=q
     rw [h2] at h; cases h
     obtain ⟨u1,u2⟩:=All.append hps
     have hind:=hi y (List.mem_cons_self ..) oy hy
     have hsem1:=SemX.stepV hind h1 hsem
     rw [List.cons_append] at hsort hfull
     obtain ⟨hlt,hsort2⟩:=List.pairwise_cons.1 hsort
     obtain ⟨t1,q1,q2,b1,b2,b3,b4⟩:=bubbleS hx l1 l2 s1 s' p2 hsort2 (fun y' hy'=>hi y' (List.mem_cons_of_mem _ hy')) hsem1 u2 h2
     obtain ⟨t0,c1,c2⟩:=swapV hind (fun hrs hs=>by
      subst hrs
      unfold indS at hs
      simp only [Bool.and_eq_true] at hs
      obtain ⟨_,_,_,_,g1,g2,g3⟩:=hs
      have ey:argsAt s'.sl oy=argsAt s.sl oy:=args_agree (ops:=ops) fun t ht=>aops_sl _ s s' _ hfull fun i hi o ho=>by
       refine freeB_spec g2 ?_ ho ht
       rcases List.mem_cons.1 hi with hi | hi
       .omega
       .have:=hlt i hi; omega
      have ex:argsAt s'.sl ox=argsAt s.sl ox:=args_agree (ops:=ops) fun t ht=>aops_sl _ s s' _ hfull fun i hi2 o ho=>by
       have hap:i ∈ y::l1->o.dst≠some t:=fun hm hd=>by
        have h3:=(indV_apart (hi i hm o ho)).2
        exact (apart_dst h3).1 t hd ht
       rcases List.mem_cons.1 hi2 with hi3 | hi3
       .exact hap (by rw [hi3]; exact List.mem_cons_self ..)
       .rcases List.mem_append.1 hi3 with hi4 | hi4
        .exact hap (List.mem_cons_of_mem _ hi4)
        .refine freeB_spec g3 ?_ ho ht
         rcases List.mem_cons.1 hi4 with hi5 | hi5
         .omega
         .have:=(List.pairwise_cons.1 (List.pairwise_append.1 hsort2).2.1).1 i hi5; omega
      rw [ey,ex] at g1
      exact g1) hsem h1 b1 b3
     refine ⟨t0,q1,p1++q2,c1,?_,b3,All.mk u1 b4⟩
     simp only [List.cons_append,aopsR,hy,c2,b2]
def drawOkS (ops:Array Oper) (rs:List Nat) (σ:Nat->AV):Bool:=
 (List.range ops.size).all fun x=>(List.range x).all fun y=>
  ((masks ops.toList []).getD x 0).testBit y||(match ops[y]?,ops[x]? with
   | some oy,some ox=>indV ops rs σ y x oy ox
   | _,_=>false)
theorem drawOkS_spec {ops:Array Oper} {rs:List Nat} {σ:Nat->AV} (h:drawOkS ops rs σ=true) {x y:Nat} {ox oy:Oper} (hxy:y < x) (hx:ops[x]?=some ox) (hy:ops[y]?=some oy)
 {listed:Nat->Bool} (hc:Closed ops listed) (hd:Done ops listed x) (hny:listed y=false):indV ops rs σ y x oy ox=true:=by
 unfold drawOkS at h
 have hlt:x < ops.size:=(Array.getElem?_eq_some_iff.1 hx).1
 have h1:=List.all_eq_true.1 h x (List.mem_range.2 hlt)
 have h2:=List.all_eq_true.1 h1 y (List.mem_range.2 hxy)
 rw [hx,hy] at h2
 rw [Bool.or_eq_true] at h2
 rcases h2 with h2 | h2
 .exfalso
  cases hm:(masks ops.toList [])[x]? with
  | none=>rw [List.getD_eq_getElem?_getD,hm] at h2; simp at h2
  | some m=>
   rw [List.getD_eq_getElem?_getD,hm] at h2
   have:=masks_ok (ops:=ops) ops.toList [] (fun i o ho=>by simpa using ho) (fun x m hx=>by simp at hx) x m hm listed hc hd y h2
   rw [hny] at this; cases this
 .exact h2
theorem aopsV_any {env:Env} (henv:EnvOk P env) {envR:EnvR} (henvR:EnvROk P envR) {rs:List Nat} {ops:Array Oper} {Q:Exit->Act->World->Prop} {s':S} (hk:drawOkS ops rs s'.sl=true)
 (hq:∀ a' w',St C s' a' w'->Q .normal a' w'):∀ (fuel:Nat) (listed:Array Bool) (l:List Nat) (s:S) (ps:List Prop) (a:Act) (w:World),
 listed.size=ops.size->(∀ i,i ∈ l↔i < ops.size/\listed.getD i true=false)->l.Pairwise (· < ·)->Closed ops (lsF listed)->l.length<=fuel->
 aopsR P env envR C.nt ops rs l s=some (s',ps)->All ps->St C s a w->(∀ (x:Nat) (o:Oper),ops[x]?=some o->∀ e ∈ o.after,Region.binds .any e=true->e.on < x)->wpAnyIn (FW C.rd) 0 P .any ops Q fuel listed a w:=by
 intro fuel
 induction fuel with
 | zero=>
  intro listed l s ps a w hsz hl hsort hcl hle h hps hs hbk
  have:l=[]:=List.length_eq_zero_iff.1 (Nat.le_zero.1 hle)
  subst this
  cases h
  refine ⟨?_,hq a w hs⟩
  refine List.eq_nil_iff_forall_not_mem.2 fun j hj=>?_
  obtain ⟨h0,o,ho,_⟩:=mem_ready.1 hj
  exact absurd ((hl j).2 ⟨(Array.getElem?_eq_some_iff.1 ho).1,h0⟩) (by simp)
 | succ fuel ih=>
  intro listed l s ps a w hsz hl hsort hcl hle h hps hs hbk
  refine ⟨fun hr=>?_,fun x hx=>?_⟩
  .cases l with
   | nil=>cases h; exact hq a w hs
   | cons x r=>
    exfalso
    have hxm:=(hl x).1 (List.mem_cons_self ..)
    have hox:ops[x]?=some ops[x]:=Array.getElem?_eq_getElem hxm.1
    have:x ∈ Region.ready .any ops listed:=by
     refine mem_ready.2 ⟨hxm.2,_,hox,fun e he hbi=>?_⟩
     have hlt:=hbk x _ hox e he hbi
     cases hle':listed.getD e.on false with
     | true=>rfl
     | false=>
      exfalso
      have he2:e.on < ops.size:=Nat.lt_trans hlt hxm.1
      have hmem:e.on ∈ x::r:=by
       refine (hl e.on).2 ⟨he2,?_⟩
       have hlt3:e.on < listed.size:=by rw [hsz]; exact he2
       simpa [Array.getD,hlt3] using hle'
      rcases List.mem_cons.1 hmem with h3 | h3
      .omega
      .have:=List.rel_of_pairwise_cons hsort h3
       omega
    rw [hr] at this; cases this
  .obtain ⟨h0,ox,hox,hall⟩:=mem_ready.1 hx
   have hlt:=(Array.getElem?_eq_some_iff.1 hox).1
   obtain ⟨l1,l2,rfl,hl1⟩:=sublist_split hsort ((hl x).2 ⟨hlt,h0⟩)
   have hind:∀ y ∈ l1,∀ oy,ops[y]?=some oy->indV ops rs s'.sl y x oy ox=true:=fun y hy oy hoy=>by
    refine drawOkS_spec hk (hl1 y hy) hox hoy hcl ?_ ?_
    .intro o ho e he hb
     rw [hox] at ho; cases ho
     exact hall e he hb
    .have:=((hl y).1 (List.mem_append_left _ hy)).2
     have hy2:y < listed.size:=by rw [hsz]; exact ((hl y).1 (List.mem_append_left _ hy)).1
     simp only [lsF]
     simpa [Array.getD,hy2] using this
   obtain ⟨s1,p1,p2,b1,b2,hp1,hp2⟩:=bubbleS hox l1 l2 s s' ps hsort hind (hs.sem ox) hps h
   have step:=astepR_sound henv henvR b1 hp1 hs (next:=wpAnyIn (FW C.rd) 0 P .any ops Q fuel (listed.setIfInBounds x true)) (Q:=Q) fun a' w' hs'=>by
    have hpw:=List.pairwise_append.1 hsort
    refine ih (listed.setIfInBounds x true) (l1++l2) s1 p2 a' w' (by simpa using hsz) (fun i=>?_) ?_ ?_ ?_ b2 hp2 hs' hbk
    .have hi:=hl i
     by_cases hix:x=i
     .subst hix
      have hxs:x < listed.size:=by rw [hsz]; exact hlt
      constructor
      .intro hm
       exfalso
       rcases List.mem_append.1 hm with hm | hm
       .exact absurd (hl1 x hm) (by omega)
       .have:=List.rel_of_pairwise_cons hpw.2.1 hm
        omega
      .rintro ⟨_,hh⟩
       simp [hxs] at hh
     .rw [getD_set_ne true hix,<-hi]
      simp only [List.mem_append,List.mem_cons]
      constructor
      .rintro (h | h)
       .exact .inl h
       .exact .inr (.inr h)
      .rintro (h | h | h)
       .exact .inl h
       .exact absurd h.symm hix
       .exact .inr h
    .exact List.Pairwise.sublist (List.Sublist.append (List.Sublist.refl _) (List.sublist_cons_self ..)) hsort
    .intro y hy o ho e he hb
     simp only [lsF] at hy ⊢
     by_cases hyx:x=y
     .subst hyx
      rw [hox] at ho; cases ho
      exact getD_set_true (hall e he hb)
     .rw [getD_set_ne false hyx] at hy
      exact getD_set_true (hcl y hy o ho e he hb)
    .simp only [List.length_append,List.length_cons] at hle ⊢
     omega
   unfold wpOpIn
   rw [hox]
   dsimp only
   split
   .rename_i hw; rw [if_pos hw] at step; exact step
   .rename_i hw; rw [if_neg hw] at step; exact ⟨fun _ _=>trivial,step⟩
theorem T_regiondS {env:Env} (henv:EnvOk P env) {envR:EnvR} (henvR:EnvROk P envR) {rs:List Nat} (hm:P.follows .mixedOrders=true) {id:Nat} {ops:Array Oper} {Q:Exit->S->Prop} {ps:List Prop}
 (hk:drawOkS ops rs s'.sl=true) (hb:backOkW ops=true)
 (h:aopsR P env envR C.nt ops rs (List.range ops.size) s=some (s',ps)) (hp:All ps) (hq:Q .normal s'):T P C (.region id ops true) s Q:=by
 intro a w hs
 refine wpIn_region_any hm ?_
 refine aopsV_any henv henvR hk (fun a' w' hs'=>⟨s',hq,hs'⟩) ops.size _ (List.range ops.size) s ps a _ (by simp) (fun i=>?_) List.pairwise_lt_range ?_ (by simp) h hp hs.drew (backOkW_spec hb)
 .simp only [List.mem_range]
  constructor
  .intro hi; exact ⟨hi,by simp [hi]⟩
  .exact fun h=>h.1
 .intro x hx
  exfalso
  simp only [lsF] at hx
  rw [Array.getD_eq_getD_getElem?,Array.getElem?_replicate] at hx
  split at hx <;> simp at hx
end Go.Am
namespace Go.Am
open Go Go.RowKit
variable {P:Program} {C:Ctx} {s s':S} {a a':Act} {w w':World} {γ:Nat->Option G} {M M':Mem}
def AV.pv:AV->PV
 | .p x=>x
 | _=>.bad
def isPV:AV->Bool
 | .p _=>true
 | _=>false
def frz1 (id:Nat) (cs:List AV):AV->AV
 | .ref j off=>match Nat.beq j id&&Nat.ble off cs.length with
  | true=>.p (.box (cs.length - off) (fun q=>(cs.getD (off+q) .any).pv))
  | false=>.ref j off
 | x=>x
def frzV (id:Nat) (cs:List AV):AV->AV
 | .clo fn fs xs=>.clo fn (fs.map (frz1 id cs)) (xs.map (frz1 id cs))
 | x=>frz1 id cs x
def frzA (id:Nat) (y:AV):AV->AV
 | .arr j=>match Nat.beq j id with
  | true=>y
  | false=>.arr j
 | x=>x
def frzS (s:S) (id:Nat):Option S:=match s.ob id with
 | some (.larr e true k R)=>some { sl:=fun t=>frzA id (.p (.list k R)) (s.sl t),ob:=upd s.ob id (some (.larr e false k R)),us:=s.us }
 | some (.larr _ false k R)=>some { sl:=fun t=>frzA id (.p (.list k R)) (s.sl t),ob:=s.ob,us:=s.us }
 | some (.cells cs)=>match cs.all isPV with
  | true=>some { sl:=fun t=>frzV id cs (s.sl t),ob:=upd s.ob id none,us:=s.us }
  | false=>none
 | _=>none
def frzL (s:S):List Nat->Option S
 | []=>some s
 | i::r=>match frzS s i with
  | some s1=>frzL s1 r
  | none=>none
theorem OM_ext {id:Nat} {o:AObj} (hM:MLe M M') (hb:∀ g,γ id=some g->∀ b,g.blk=some b->∀ q,M' b q=M b q) (h:OM γ M w id o):OM γ M' w id o:=by
 cases o with
 | cells cs=>
  obtain ⟨b,vs,e,h1,h2,h3,h4,h5⟩:=h
  exact ⟨b,vs,e,h1,h2,h3,fun j hj=>⟨((h4 j hj).1).mono (fun _ _ hx=>hx) hM,(h4 j hj).2⟩,fun q=>by rw [hb _ h1 b rfl q]; exact h5 q⟩
 | barr e mu l=>
  obtain ⟨x,cap,h1,h2⟩:=h
  refine ⟨x,cap,h1,h2.own,h2.one,h2.len,fun g hg=>?_⟩
  have:=h2.mem g hg
  have hq:=hb _ h1 g hg
  cases mu with
  | true=>intro q; rw [hq q]; exact this q
  | false=>intro q; rw [hq q]; exact this q
 | larr e mu k R=>
  obtain ⟨x,cap,vs,h1,h0,h2⟩:=h
  refine ⟨x,cap,vs,h1,fun i j hi hj=>?_,h2.own,h2.one,h2.len,fun g hg=>?_⟩
  .obtain ⟨v,hv,hr⟩:=h0 i j hi hj
   exact ⟨v,hv,hr.mono hM⟩
  .have:=h2.mem g hg
   have hq:=hb _ h1 g hg
   cases mu with
   | true=>intro q; rw [hq q]; exact this q
   | false=>intro q; rw [hq q]; exact this q
 | bcv e l=>
  obtain ⟨g,cur,h1,h2,h3,h4,h5,h6⟩:=h
  exact ⟨g,cur,h1,h2,h3,h4,h5,fun q=>by rw [hb _ h1 g rfl q]; exact h6 q⟩
 | bldr T x=>
  obtain ⟨b,v0,v1,h1,h2,h3,h4,h5,h6⟩:=h
  exact ⟨b,v0,v1,h1,h2,h3,h4.mono (fun _ _ hx=>hx) hM,h5,fun q=>by rw [hb _ h1 b rfl q]; exact h6 q⟩
 | raw o=>
  obtain ⟨b,h1,h2,h3⟩:=h
  exact ⟨b,h1,h2,fun q=>by rw [hb _ h1 b rfl q]; exact h3 q⟩
theorem frz1_rel {id b:Nat} {cs:List AV} {vs:Array Value} (hγ:γ id=some (.cell b)) (hM:MLe M M') (hb:∀ q,M' b q=vs[q]?) (hsz:vs.size=cs.length)
 (hcs:∀ j,j < cs.length->PRel M' (cs.getD j .any).pv (vs.getD j undef)) {x:AV} {v:Value} (h:ARel γ M x v):ARel γ M' (frz1 id cs x) v:=by
 have hm:ARel γ M' x v:=h.mono (fun _ _ hx=>hx) hM
 cases x with
 | ref j off=>
  simp only [frz1]
  cases hc:Nat.beq j id&&Nat.ble off cs.length with
  | false=>exact hm
  | true=>
   rw [Bool.and_eq_true] at hc
   have hj:=Nat.eq_of_beq_eq_true hc.1
   subst hj
   have ho:=Nat.le_of_ble_eq_true hc.2
   obtain ⟨b',h1,rfl⟩:=h.ref_inv
   rw [hγ] at h1; cases h1
   refine .p _ _ (.box _ _ b off (fun q=>vs.getD (off+q) undef) (fun q hq=>?_) (fun q hq=>hcs _ (by omega)))
   have hlt:off+q < vs.size:=by omega
   rw [hb,Array.getElem?_eq_getElem hlt,Array.getD_eq_getD_getElem?,Array.getElem?_eq_getElem hlt]; rfl
 | _=>exact hm
theorem frzV_rel {id b:Nat} {cs:List AV} {vs:Array Value} (hγ:γ id=some (.cell b)) (hM:MLe M M') (hb:∀ q,M' b q=vs[q]?) (hsz:vs.size=cs.length)
 (hcs:∀ j,j < cs.length->PRel M' (cs.getD j .any).pv (vs.getD j undef)) {x:AV} {v:Value} (h:ARel γ M x v):ARel γ M' (frzV id cs x) v:=by
 cases x with
 | clo fn fs xs=>
  cases h with
  | clo _ _ _ vf vc hf hc h1 h2=>
   have key:∀ (l:List AV) (ws:Array Value),(∀ i,i < l.length->ARel γ M (l.getD i .any) (ws.getD i undef))->∀ i,i < (l.map (frz1 id cs)).length->ARel γ M' ((l.map (frz1 id cs)).getD i .any) (ws.getD i undef):=by
    intro l ws hl i hi
    have hi':i < l.length:=by simpa using hi
    have:=frz1_rel hγ hM hb hsz hcs (hl i hi')
    rw [List.getD_eq_getElem?_getD,List.getElem?_eq_getElem hi'] at this
    rw [List.getD_eq_getElem?_getD,List.getElem?_map,List.getElem?_eq_getElem hi']
    exact this
   exact .clo fn _ _ vf vc (by simpa using hf) (by simpa using hc) (key fs vf h1) (key xs vc h2)
 | _=>exact frz1_rel hγ hM hb hsz hcs h
theorem frzA_sub {id k:Nat} {e:TypeId} {R:Rows} (ho:s.ob id=some (.larr e false k R)):Sub C s { sl:=fun t=>frzA id (.p (.list k R)) (s.sl t),ob:=s.ob,us:=s.us }:=by
 rintro a w ⟨γ,M,hs⟩
 refine ⟨γ,M,fun t=>?_,hs.ob,hs.us,hs.sep,hs.lo,hs.mem,hs.le,hs.new,hs.fr,hs.df,hs.nt,hs.gl⟩
 have hx:=hs.sl t
 show ARel γ M (frzA id _ (s.sl t)) _
 generalize s.sl t=x at hx
 cases x with
 | arr j=>
  simp only [frzA]
  cases hc:Nat.beq j id with
  | false=>exact hx
  | true=>
   have hj:=Nat.eq_of_beq_eq_true hc
   subst hj
   have hp:=(snap1_rel hs (x:=.arr j) (z:=.p (.list k R)) (by simp only [snap1,ho]) hx).p_inv
   exact .p _ _ hp
 | _=>exact hx
theorem muOff_sub {id k:Nat} {e:TypeId} {R:Rows} (ho:s.ob id=some (.larr e true k R)):Sub C s { sl:=s.sl,ob:=upd s.ob id (some (.larr e false k R)),us:=s.us }:=by
 rintro a w ⟨γ,M,hs⟩
 obtain ⟨ad,cap,vs,h1,h2,hA⟩:=hs.ob id _ ho
 let M':Mem:=fun b q=>if ad=some b then vs[q]? else M b q
 have hnone:∀ b,ad=some b->∀ q,M b q=none:=fun b hb=>hA.mem b hb
 have hle:MLe M M':=by
  intro b q v hv
  show (if ad=some b then vs[q]? else M b q)=some v
  by_cases hb:ad=some b
  .rw [hnone b hb q] at hv; cases hv
  .rw [if_neg hb]; exact hv
 have hne:∀ b,ad≠some b->∀ q,M' b q=M b q:=fun b hb q=>if_neg hb
 have hsub:∀ k',upd s.ob id (some (AObj.larr e false k R)) k'≠none->s.ob k'≠none:=by
  intro k' hk
  by_cases hid:k'=id
  .subst hid; rw [ho]; exact fun h=>by cases h
  .rw [upd_ne _ _ hid] at hk; exact hk
 refine ⟨γ,M',fun t=>(hs.sl t).mono (fun _ _ hx=>hx) hle,?_,hs.us,?_,?_,?_,hs.le.trans hle,?_,hs.fr,hs.df,hs.nt,hs.gl⟩
 .intro i o hi
  have hi:upd s.ob id (some (AObj.larr e false k R)) i=some o:=hi
  by_cases hid:i=id
  .subst hid
   rw [upd_same] at hi; cases hi
   refine ⟨ad,cap,vs,h1,fun i j hi hj=>?_,hA.own,hA.one,hA.len,fun g hg q=>if_pos hg⟩
   obtain ⟨v,hv,hr⟩:=h2 i j hi hj
   exact ⟨v,hv,hr.mono hle⟩
  .rw [upd_ne _ _ hid] at hi
   refine OM_ext hle (fun g hg b' hb' q=>hne b' (fun hbb=>?_) q) (hs.ob i o hi)
   exact hid (hs.sep i id g _ b' (by rw [hi]; exact fun h=>by cases h) (by rw [ho]; exact fun h=>by cases h) hg h1 hb' hbb)
 .intro i j g g' b' hi hj
  exact hs.sep i j g g' b' (hsub i hi) (hsub j hj)
 .intro i g b' hi
  exact hs.lo i g b' (hsub i hi)
 .intro b' q v hv
  have hv:(if ad=some b' then vs[q]? else M b' q)=some v:=hv
  by_cases hb:ad=some b'
  .rw [if_pos hb] at hv
   rcases hA.own.2 with ⟨hv0,hn0⟩ | ⟨g',cap',cur,hv0,_,hh,_,_,_,htk⟩
   .rw [hb] at hv0; simp [arrV] at hv0
   .rw [hb] at hv0
    simp only [arrV,Option.map_some,Value.slice.injEq,Option.some.injEq,Addr.mk.injEq] at hv0
    obtain ⟨⟨hg,_,_⟩,_,_⟩:=hv0
    rw [<-htk] at hv
    have hq:cur[q]?=some v:=by
     rw [List.getElem?_take] at hv
     split at hv
     .simpa using hv
     .cases hv
    subst hg
    simp [World.cell?,hh,hq]
  .rw [if_neg hb] at hv; exact hs.mem b' q v hv
 .intro b' hb1 hb2
  funext q
  by_cases hb:ad=some b'
  .have:=hs.lo id _ b' (by rw [ho]; exact fun h=>by cases h) h1 hb
   rcases this.1 with h6 | h6
   .omega
   .exact absurd h6 hb2
  .rw [hne b' hb q,hs.new b' hb1 hb2]
theorem frzS_sub {id:Nat} (h:frzS s id=some s'):Sub C s s':=by
 unfold frzS at h
 cases ho:s.ob id with
 | none=>rw [ho] at h; cases h
 | some o=>
  rw [ho] at h
  cases o with
  | cells cs=>
   dsimp only at h
   cases hall:cs.all isPV with
   | false=>rw [hall] at h; cases h
   | true=>
    rw [hall] at h
    cases h
    rintro a w ⟨γ,M,hs⟩
    obtain ⟨b,vs,e,h1,h2,h3,h4,h5⟩:=hs.ob id _ ho
    let M':Mem:=fun b' q=>if b'=b then vs[q]? else M b' q
    have hle:MLe M M':=by
     intro b' q v hv
     show (if b'=b then vs[q]? else M b' q)=some v
     by_cases hb:b'=b
     .subst hb; rw [h5 q] at hv; cases hv
     .rw [if_neg hb]; exact hv
    have hbq:∀ q,M' b q=vs[q]?:=fun q=>if_pos rfl
    have hne:∀ b',b'≠b->∀ q,M' b' q=M b' q:=fun b' hb q=>if_neg hb
    have hcs:∀ j,j < cs.length->PRel M' (cs.getD j .any).pv (vs.getD j undef):=by
     intro j hj
     have h6:=(h4 j hj).1
     have h7:isPV (cs.getD j .any)=true:=by
      rw [List.getD_eq_getElem?_getD,List.getElem?_eq_getElem hj]
      exact (List.all_eq_true.1 hall) _ (List.getElem_mem hj)
     generalize cs.getD j .any=y at h6 h7
     cases y with
     | p x=>exact h6.p_inv.mono hle
     | _=>cases h7
    refine ⟨γ,M',fun t=>frzV_rel h1 hle hbq h3 hcs (hs.sl t),?_,hs.us,?_,?_,?_,hs.le.trans hle,?_,hs.fr,hs.df,hs.nt,hs.gl⟩
    .intro i o hi
     by_cases hid:i=id
     .subst hid
      have hi:upd s.ob i none i=some o:=hi
      rw [upd_same] at hi; cases hi
     .have hi:upd s.ob id none i=some o:=hi
      rw [upd_ne _ _ hid] at hi
      refine OM_ext hle (fun g hg b' hb' q=>hne b' (fun hbb=>?_) q) (hs.ob i o hi)
      subst hbb
      exact hid (hs.sep i id g _ _ (by rw [hi]; exact fun h=>by cases h) (by rw [ho]; exact fun h=>by cases h) hg h1 hb' rfl)
    .intro i j g g' b' hi hj
     have hsub:∀ k,upd s.ob id none k≠none->s.ob k≠none:=by
      intro k hk
      by_cases hid:k=id
      .subst hid; rw [upd_same] at hk; exact absurd rfl hk
      .rw [upd_ne _ _ hid] at hk; exact hk
     exact hs.sep i j g g' b' (hsub i hi) (hsub j hj)
    .intro i g b' hi
     refine hs.lo i g b' ?_
     have hi:upd s.ob id none i≠none:=hi
     by_cases hid:i=id
     .subst hid; rw [upd_same] at hi; exact absurd rfl hi
     .rw [upd_ne _ _ hid] at hi; exact hi
    .intro b' q v hv
     have hv:(if b'=b then vs[q]? else M b' q)=some v:=hv
     by_cases hb:b'=b
     .subst hb
      rw [if_pos rfl] at hv
      simp [World.cell?,h2,hv]
     .rw [if_neg hb] at hv; exact hs.mem b' q v hv
    .intro b' hb1 hb2
     funext q
     by_cases hb:b'=b
     .subst hb
      have:=hs.lo id _ b' (by rw [ho]; exact fun h=>by cases h) h1 rfl
      rcases this.1 with h6 | h6
      .omega
      .exact absurd h6 hb2
     .rw [hne b' hb q,hs.new b' hb1 hb2]
  | larr e mu k R=>
   cases mu with
   | true=>
    cases h
    exact fun a w hs=>frzA_sub (s:={ sl:=s.sl,ob:=upd s.ob id (some (.larr e false k R)),us:=s.us }) (id:=id) (upd_same _ _ _) a w (muOff_sub ho a w hs)
   | false=>
    cases h
    exact frzA_sub ho
  | _=>cases h
theorem frzL_sub:∀ {l:List Nat} {s s':S},frzL s l=some s'->Sub C s s'
 | [],s,s',h=>by cases h; exact Sub.refl s
 | i::r,s,s',h=>by
  simp only [frzL] at h
  split at h
  .rename_i s1 h1
   exact fun a w hs=>frzL_sub h a w (frzS_sub h1 a w hs)
  .cases h
end Go.Am
namespace Go.Am
open Go Go.RowKit
variable {P:Program} {γ γ':Nat->Option G} {M M':Mem} {C:Ctx} {s s':S} {a a':Act} {w w':World}
inductive Src where
 | slot (t:Nat)
 | cell (id ix:Nat)
 | fix (id:Nat)
 | comp (t q:Nat)
structure Own where
 src:Src
 new:Nat
 emp:AObj
structure Cut where
 slots:List Nat
 own:List Own
def srcVal (s:S) (rn:Rn):Src->AV
 | .slot t=>s.sl t
 | .cell id ix=>match obAt s (renF rn id) with
  | some (.cells cs)=>cs.getD ix .any
  | some (.bldr _ a)=>a
  | _=>.any
 | .fix id=>.arr id
 | .comp t q=>match s.sl t with
  | .agg cs=>cs.getD q .any
  | .tup cs=>cs.getD q .any
  | .clo _ fs cs=>(fs++cs).getD q .any
  | _=>.any
def oldOf:AV->Option (Option Nat)
 | .arr old=>some (some old)
 | .ref old _=>some (some old)
 | .p .nil=>some none
 | _=>none
def resolveO (s:S):Rn->List Own->Option Rn
 | rn,[]=>some rn
 | rn,o::r=>match oldOf (srcVal s rn o.src) with
  | some old=>resolveO s (rn++[(o.new,old)]) r
  | none=>none
def fwOf:Rn->Rn
 | []=>[]
 | (i,some j)::r=>(j,some i)::fwOf r
 | (_,none)::r=>fwOf r
def slotNew (own:List Own) (t:Nat):Option Nat:=
 match own with
 | []=>none
 | o::r=>match o.src with
  | .slot t'=>match Nat.beq t t' with | true=>some o.new | false=>slotNew r t
  | _=>slotNew r t
def cellNew (own:List Own) (id ix:Nat):Option Nat:=
 match own with
 | []=>none
 | o::r=>match o.src with
  | .cell id' ix'=>match Nat.beq id id'&&Nat.beq ix ix' with | true=>some o.new | false=>cellNew r id ix
  | _=>cellNew r id ix
def isNilAV:AV->Bool
 | .p .nil=>true
 | _=>false
def convA (fw:Rn) (nm:Option Nat) (x:AV):AV:=
 match nm,isNilAV x with
 | some id,true=>.arr id
 | _,_=>renA fw x
def okA (rn fw:Rn) (nm:Option Nat) (x:AV):Bool:=
 match nm,isNilAV x with
 | some id,true=>(renF rn id).isNone&&(lookO id rn).isSome
 | _,_=>useF fw x
theorem isNilAV_spec {x:AV} (h:isNilAV x=true):x=.p .nil:=by
 unfold isNilAV at h; split at h
 .rfl
 .cases h
section
variable {rn fw:Rn} {ids:List (Nat×Nat)} (hinv:∀ i j,renF fw j=some i->renF rn i=some j/\(lookO i ids).isSome=true) (hk:∀ i,(lookO i ids).isSome=(lookO i rn).isSome)
include hinv hk
theorem covConv {nm:Option Nat} {x:AV} (h:okA rn fw nm x=true):CovA (renF rn) x (convA fw nm x)/\Uses ids (convA fw nm x):=by
 unfold okA at h
 unfold convA
 split at h
 .rename_i hn
  rw [Bool.and_eq_true] at h
  rw [isNilAV_spec hn]
  exact ⟨.nil _ (by cases hr:renF rn _ with | none=>rfl | some _=>rw [hr] at h; cases h.1),.arr _ (by rw [hk]; exact h.2)⟩
 .exact covBF hinv h
end
abbrev Dm:=Option (Nat×Ec)
def dmPV:Nat×Ec->PV:=fun q=>.list q.1 (.dat q.2 [])
def convD (dm:Dm) (y:AV):AV:=
 match dm,isNilAV y with
 | some q,true=>.p (dmPV q)
 | _,_=>y
theorem cov_nil {ren:Nat->Option Nat} {x:AV} {q:PV} (hq:∀ M v,PRel M .nil v->PRel M q v) (h:CovA ren x (.p .nil)):CovA ren x (.p q):=by
 generalize hy:(AV.p PV.nil)=y at h
 cases h <;> first
  | cases hy; exact .pv _ _ hq
  | (cases hy; rename_i h; exact .pv _ _ fun M v hv=>hq M v (h M v hv))
  | cases hy
theorem covD {ren:Nat->Option Nat} {ids:List (Nat×Nat)} {x y:AV} {dm:Dm} (h:CovA ren x y/\Uses ids y):CovA ren x (convD dm y)/\Uses ids (convD dm y):=by
 unfold convD
 split
 .rename_i q hy
  rw [isNilAV_spec hy] at h
  exact ⟨cov_nil (fun M v hv=>by cases hv; exact .listNil _ _ rfl) h.1,.p _⟩
 .exact h
def dataMark:Nat:=9000000000000
def realO:List Own->List Own
 | []=>[]
 | o::r=>match Nat.ble dataMark o.new with | true=>realO r | false=>o::realO r
def dataAt (own:List Own) (id ix:Nat):Dm:=
 match own with
 | []=>none
 | o::r=>match o.src,Nat.ble dataMark o.new,o.emp with
  | .cell id' ix',true,.larr _ _ k (.dat c _)=>match Nat.beq id id'&&Nat.beq ix ix' with | true=>some (k,c) | false=>dataAt r id ix
  | _,_,_=>dataAt r id ix
def convL (fw:Rn) (nm:Nat->Option Nat) (dm:Nat->Dm):Nat->List AV->List AV
 | _,[]=>[]
 | i,x::r=>convD (dm i) (convA fw (nm i) x)::convL fw nm dm (i+1) r
def okL (rn fw:Rn) (nm:Nat->Option Nat):Nat->List AV->Bool
 | _,[]=>true
 | i,x::r=>okA rn fw (nm i) x&&okL rn fw nm (i+1) r
theorem convL_len {fw:Rn} {nm:Nat->Option Nat} {dm:Nat->Dm}:∀ {i:Nat} {l:List AV},(convL fw nm dm i l).length=l.length
 | _,[]=>rfl
 | i,x::r=>by simp only [convL,List.length_cons,convL_len]
theorem convL_get {fw:Rn} {nm:Nat->Option Nat} {dm:Nat->Dm}:∀ {l:List AV} {i k:Nat},k < l.length->(convL fw nm dm i l).getD k .any=convD (dm (i+k)) (convA fw (nm (i+k)) (l.getD k .any))
 | [],i,k,h=>by cases h
 | x::r,i,0,_=>rfl
 | x::r,i,k+1,h=>by
  have:=convL_get (fw:=fw) (nm:=nm) (dm:=dm) (l:=r) (i:=i+1) (k:=k) (by simpa using h)
  simp only [convL,List.getD_cons_succ,this]
  rw [show i+1+k=i+(k+1) by omega]
theorem okL_get {rn fw:Rn} {nm:Nat->Option Nat}:∀ {l:List AV} {i k:Nat},okL rn fw nm i l=true->k < l.length->okA rn fw (nm (i+k)) (l.getD k .any)=true
 | [],i,k,_,h=>by cases h
 | x::r,i,0,h,_=>by simp only [okL,Bool.and_eq_true] at h; exact h.1
 | x::r,i,k+1,h,hk=>by
  simp only [okL,Bool.and_eq_true] at h
  have:=okL_get (l:=r) (i:=i+1) (k:=k) h.2 (by simpa using hk)
  simp only [List.getD_cons_succ]
  have e:i+(k+1)=i+1+k:=by omega
  rw [e]; exact this
def convO (rn fw:Rn) (own dt:List Own) (id:Nat):AObj->Option AObj
 | .cells cs=>match okL rn fw (cellNew own id) 0 cs with
  | true=>some (.cells (convL fw (cellNew own id) (dataAt dt id) 0 cs))
  | false=>none
 | .bldr T a=>match okA rn fw (cellNew own id 1) a with
  | true=>some (.bldr T (convA fw (cellNew own id 1) a))
  | false=>none
 | o=>some o
def buildO (s:S) (rn0 fw:Rn) (own dt:List Own):Rn->List Own->Option (List (Nat×AObj))
 | [],_=>some []
 | (id,old)::r,os=>
  match (match old with
   | some j=>match s.ob j with
    | some ob=>convO rn0 fw own dt id ob
    | none=>none
   | none=>match os with
    | o::_=>match emptyB o.emp with | true=>some o.emp | false=>none
    | []=>none) with
  | some ob=>match buildO s rn0 fw own dt r os.tail with
   | some l=>some ((id,ob)::l)
   | none=>none
  | none=>none
def cutSlots (s:S) (rn fw:Rn) (own:List Own):List Nat->Option (List (Nat×AV))
 | []=>some []
 | t::r=>match okA rn fw (slotNew own t) (s.sl t) with
  | true=>match cutSlots s rn fw own r with
   | some l=>some ((t,convA fw (slotNew own t) (s.sl t))::l)
   | none=>none
  | false=>none
def cutOk (fx:List Nat) (rn:Rn):Bool:=fixB fx rn&&(nodupB (olds rn)&&nodupB (rn.map (·.1)))
def cutS (fx:List Nat) (c:Cut) (s:S):Option S:=
 match resolveO s [] (realO c.own) with
 | some rn=>match cutOk fx rn with
  | true=>match cutSlots s rn (fwOf rn) (realO c.own) c.slots with
   | some l=>match buildO s rn (fwOf rn) (realO c.own) c.own rn (realO c.own) with
    | some o=>some (mkS l o)
    | none=>none
   | none=>none
  | false=>none
 | none=>none
theorem fwOf_mem:∀ {rn:Rn} {i j:Nat},(j,some i) ∈ fwOf rn->(i,some j) ∈ rn
 | [],i,j,h=>by cases h
 | (a,some b)::r,i,j,h=>by
  simp only [fwOf,List.mem_cons] at h
  rcases h with h | h
  .cases h; simp
  .exact List.mem_cons_of_mem _ (fwOf_mem h)
 | (a,none)::r,i,j,h=>List.mem_cons_of_mem _ (fwOf_mem (rn:=r) h)
theorem cutSlots_spec {s:S} {rn fw:Rn} {own:List Own}:∀ {ts:List Nat} {l:List (Nat×AV)},cutSlots s rn fw own ts=some l->
 ∀ p ∈ l,okA rn fw (slotNew own p.1) (s.sl p.1)=true/\p.2=convA fw (slotNew own p.1) (s.sl p.1)
 | [],l,h,p,hp=>by cases h; cases hp
 | t::r,l,h,p,hp=>by
  simp only [cutSlots] at h
  split at h
  .rename_i hok
   split at h
   .rename_i l' hl
    cases h
    rcases List.mem_cons.1 hp with e | e
    .subst e; exact ⟨hok,rfl⟩
    .exact cutSlots_spec hl p e
   .cases h
  .cases h
theorem buildO_spec {s:S} {rn0 fw:Rn} {own dt:List Own}:∀ {rn:Rn} {os:List Own} {o:List (Nat×AObj)},buildO s rn0 fw own dt rn os=some o->
 o.map (·.1)=rn.map (·.1)/\∀ p ∈ o,∃ old,(p.1,old) ∈ rn/\match old with
  | some j=>∃ ob,s.ob j=some ob/\convO rn0 fw own dt p.1 ob=some p.2
  | none=>emptyB p.2=true
 | [],os,o,h=>by cases h; exact ⟨rfl,fun p hp=>by cases hp⟩
 | (id,old)::r,os,o,h=>by
  simp only [buildO] at h
  split at h
  .rename_i ob hob
   split at h
   .rename_i l hl
    cases h
    obtain ⟨h1,h2⟩:=buildO_spec hl
    refine ⟨by simp [h1],fun p hp=>?_⟩
    rcases List.mem_cons.1 hp with e | e
    .subst e
     refine ⟨old,by simp,?_⟩
     cases old with
     | some j=>
      dsimp only at hob ⊢
      cases ho:s.ob j with
      | none=>rw [ho] at hob; cases hob
      | some ob'=>rw [ho] at hob; exact ⟨ob',rfl,hob⟩
     | none=>
      dsimp only at hob ⊢
      cases os with
      | nil=>cases hob
      | cons o _=>
       dsimp only at hob
       split at hob
       .rename_i he; cases hob; exact he
       .cases hob
    .obtain ⟨old',hm,hx⟩:=h2 p e
     exact ⟨old',List.mem_cons_of_mem _ hm,hx⟩
   .cases h
  .cases h
theorem cutS_sub {nt:Nat} {fx:List Nat} (hC:CtxOk C nt fx) {c:Cut} {s s':S} (h:cutS fx c s=some s'):Sub C s s':=by
 unfold cutS at h
 split at h
 .rename_i rn hrn
  split at h
  .rename_i hok
   split at h
   .rename_i l hl
    split at h
    .rename_i o ho
     cases h
     unfold cutOk at hok
     simp only [Bool.and_eq_true] at hok
     obtain ⟨hfix,hold,hnd⟩:=hok
     obtain ⟨hkeys,hob⟩:=buildO_spec ho
     have hids:o.map (·.1)=(idsOf o).map (·.1):=by simp [idsOf]
     have hkk:∀ i,(lookO i (idsOf o)).isSome=(lookO i rn).isSome:=fun i=>by rw [<-lookO_keys hids i]; exact lookO_keys hkeys i
     have hinv:∀ i j,renF (fwOf rn) j=some i->renF rn i=some j/\(lookO i (idsOf o)).isSome=true:=by
      intro i j hr
      have hm:=fwOf_mem (renF_mem hr)
      have hl:=lookO_of_mem hnd hm
      refine ⟨by unfold renF; rw [hl],by rw [hkk,hl]; rfl⟩
     have hnd':nodupB ((idsOf o).map (·.1))=true:=by rw [<-hids,hkeys]; exact hnd
     refine Sub_mk (idsOf o) (renF rn) hids ?_ ?_ (fun i g hg=>?_) (fun i j old hi hj _ _=>nodup_inj hold i j old hi hj)
     .refine All_of fun p hp=>?_
      obtain ⟨h1,h2⟩:=cutSlots_spec hl p hp
      obtain ⟨c1,c2⟩:=covConv hinv hkk h1
      rw [h2]; exact ⟨c1,c2⟩
     .refine All_of fun p hp=>?_
      obtain ⟨old,hm,hx⟩:=hob p hp
      have hl:=lookO_of_mem hnd hm
      cases old with
      | some j=>
       obtain ⟨ob,ho1,hc⟩:=hx
       have hr:renF rn p.1=some j:=by unfold renF; rw [hl]
       rw [hr]
       cases ob with
       | barr e mu l'=>have hc':=Option.some.inj hc; rw [<-hc']; exact ⟨trivial,_,ho1,.refl_b _ _ _⟩
       | larr e mu k R=>have hc':=Option.some.inj hc; rw [<-hc']; exact ⟨trivial,_,ho1,.larr _ _ _ _⟩
       | bcv e l'=>have hc':=Option.some.inj hc; rw [<-hc']; exact ⟨trivial,_,ho1,.bcv _ _⟩
       | raw o'=>have hc':=Option.some.inj hc; rw [<-hc']; exact ⟨trivial,_,ho1,.raw _⟩
       | bldr T x=>
        simp only [convO] at hc
        split at hc
        .rename_i hokx
         have hc':=Option.some.inj hc
         rw [<-hc']
         exact ⟨(covConv hinv hkk hokx).2,_,ho1,.bldr _ _ _ (covConv hinv hkk hokx).1⟩
        .cases hc
       | cells cs=>
        simp only [convO] at hc
        split at hc
        .rename_i hokl
         simp only [Option.some.injEq] at hc
         rw [<-hc]
         refine ⟨fun i hi=>?_,_,ho1,.cells _ _ convL_len.symm fun i hi=>?_⟩
         .have hi':i < cs.length:=by rw [convL_len] at hi; exact hi
          rw [convL_get hi']
          exact (covD (covConv hinv hkk (okL_get hokl hi'))).2
         .have hi':i < cs.length:=by rw [convL_len] at hi; exact hi
          rw [convL_get hi']
          exact (covD (covConv hinv hkk (okL_get hokl hi'))).1
        .cases hc
      | none=>
       have hr:renF rn p.1=none:=by unfold renF; rw [hl]
       rw [hr]
       have he:emptyB p.2=true:=hx
       refine ⟨by cases hp2:p.2 with | cells cs=>rw [hp2] at he; cases he | bldr _ _=>rw [hp2] at he; cases he | _=>exact trivial,fun k hk'=>?_⟩
       have:lookO p.1 (idsOf o)=some (kOf p.2):=lookO_of_mem hnd' (List.mem_map.2 ⟨p,hp,rfl⟩)
       rw [this] at hk'; cases hk'
       exact emptyB_spec he
     .have h1:=(List.all_eq_true.1 hfix) i (hC.fx i g hg)
      cases hr:renF rn i with
      | none=>rw [hr] at h1; cases h1
      | some j=>
       rw [hr] at h1
       have:i=j:=Nat.eq_of_beq_eq_true h1
       subst this
       exact ⟨rfl,by rw [hkk]; exact renF_some (by rw [hr]; rfl)⟩
    .cases h
   .cases h
  .cases h
 .cases h
abbrev Ans:=AV×List (Nat×AObj)
abbrev K:=Exit->S->Option Ans
noncomputable def need (p:Prop) (x:Option Ans):Option Ans:=@ite _ p (Classical.propDecidable p) x none
theorem need_get {p:Prop} {x:Option Ans} {r:Ans} (h:need p x=some r):p/\x=some r:=by
 unfold need at h
 by_cases hp:p
 .rw [if_pos hp] at h; exact ⟨hp,h⟩
 .rw [if_neg hp] at h; cases h
theorem need_pos {p:Prop} {x:Option Ans} (h:p):need p x=x:=by unfold need; rw [if_pos h]
theorem need_mk {p:Prop} {x r:Option Ans} (h:p) (k:x=r):need p x=r:=by rw [need_pos h,k]
theorem cond_t {b:Bool} {x y r:Option Ans} (h:b=true) (k:x=r):cond b x y=r:=by rw [h]; exact k
theorem cond_f {b:Bool} {x y r:Option Ans} (h:b=false) (k:y=r):cond b x y=r:=by rw [h]; exact k
noncomputable def needs:List Prop->Option Ans->Option Ans
 | [],x=>x
 | p::r,x=>need p (needs r x)
theorem needs_get {x:Option Ans} {r:Ans}:∀ {ps:List Prop},needs ps x=some r->All ps/\x=some r
 | [],h=>⟨trivial,h⟩
 | p::ps,h=>by
  obtain ⟨h1,h2⟩:=need_get h
  obtain ⟨h3,h4⟩:=needs_get h2
  exact ⟨⟨h1,h3⟩,h4⟩
noncomputable def agree (x y:Option Ans):Option Ans:=@ite _ (x=y) (Classical.propDecidable (x=y)) x none
theorem agree_get {x y:Option Ans} {r:Ans} (h:agree x y=some r):x=some r/\y=some r:=by
 unfold agree at h
 by_cases e:x=y
 .rw [if_pos e] at h; exact ⟨h,e ▸ h⟩
 .rw [if_neg e] at h; cases h
theorem agree_self (x:Option Ans):agree x x=x:=by unfold agree; rw [if_pos rfl]
structure Cfg where
 P:Program
 env:Env
 envR:EnvR
 nt:Nat
 fx:List Nat
 cuts:List (List Nat×Cut)
 rs:List (List Nat×List Nat)
def beqL:List Nat->List Nat->Bool
 | [],[]=>true
 | a::r,b::q=>Nat.beq a b&&beqL r q
 | _,_=>false
def lookL {α:Type} (p:List Nat):List (List Nat×α)->Option α
 | []=>none
 | q::r=>match beqL p q.1 with | true=>some q.2 | false=>lookL p r
def cutK0 (G:Cfg) (p:List Nat) (s:S) (next:S->Option Ans):Option Ans:=
 match lookL p G.cuts with
 | none=>next s
 | some c=>match cutS G.fx c s with
  | some s'=>next s'
  | none=>none
def cutK (G:Cfg) (p:List Nat) (s:S) (next:S->Option Ans):Option Ans:=
 match lookL (888888::p) G.rs with
 | none=>cutK0 G p s next
 | some l=>match frzL s l with
  | some s1=>cutK0 G p s1 next
  | none=>none
def kSeq (G:Cfg) (p:List Nat) (next:S->Option Ans) (k:K):K:=fun e s=>
 match e with
 | .normal=>cutK G p s next
 | e=>k e s
theorem kSeq_normal {G:Cfg} {p:List Nat} {next:S->Option Ans} {k:K} {s:S}:kSeq G p next k .normal s=cutK G p s next:=rfl
def kBlk (id:Nat) (k:K):K:=fun e s=>
 match e with
 | .exit i=>match Nat.beq i id with
  | true=>k .normal s
  | false=>k (.exit i) s
 | e=>k e s
def kScp (k:K):K:=fun e s=>
 match e with
 | .goto _=>none
 | e=>k e s
noncomputable def runC (G:Cfg) (again:List Nat->Code->S->K->Option Ans):List Nat->Code->S->K->Option Ans
 | _,.skip,s,k=>k .normal s
 | _,.label _,s,k=>k .normal s
 | p,.region _ ops d,s,k=>
  match aopsR G.P G.env G.envR G.nt ops ((lookL p G.rs).getD []) (List.range ops.size) s with
  | some (s',ps)=>match lookL (999999::p) G.rs with
   | none=>match !d||((drawOkW ops ((lookL p G.rs).getD [])||drawOkS ops ((lookL p G.rs).getD []) s'.sl)&&backOkW ops) with
    | true=>needs ps (k .normal s')
    | false=>none
   | some (u::v::lB)=>match d&&(drawOkD ops ((lookL p G.rs).getD []) u v lB&&backOkW ops),aopsR G.P G.env G.envR G.nt ops ((lookL p G.rs).getD []) lB s with
    | true,some (s2,ps2)=>needs ps (needs ps2 (agree (k .normal s') (k .normal s2)))
    | _,_=>none
   | some _=>none
  | none=>none
 | p,.seq a b,s,k=>runC G again (0::p) a s (kSeq G (1::p) (fun s2=>runC G again (1::p) b s2 k) k)
 | p,.cond x a b,s,k=>match aev s.sl x with
  | .p (.bool c)=>cond c (runC G again (0::p) a s k) (runC G again (1::p) b s k)
  | _=>none
 | p,.block id a,s,k=>runC G again (0::p) a s (kBlk id k)
 | p,.loop b,s,k=>cutK G p s (fun s0=>again p b s0 k)
 | p,.scope a,s,k=>runC G again (0::p) a s (kScp k)
 | _,.exit id,s,k=>k (.exit id) s
 | _,.ret,s,k=>k .ret s
 | _,_,_,_=>none
noncomputable def runL (G:Cfg) (n:Nat):List Nat->Code->S->K->Option Ans:=
 Nat.rec (motive:=fun _=>List Nat->Code->S->K->Option Ans) (fun _ _ _ _=>none)
  (fun _ ih p b s k=>runC G ih (0::p) b s (kSeq G p (fun s2=>ih p b s2 k) k)) n
structure CfgOk (G:Cfg) (P:Program) (C:Ctx):Prop where
 p:G.P=P
 env:EnvOk P G.env
 envR:EnvROk P G.envR
 ctx:CtxOk C G.nt G.fx
 mx:P.follows .mixedOrders=true
theorem cutK0_get {G:Cfg} (hG:CfgOk G P C) {p:List Nat} {s:S} {next:S->Option Ans} {r:Ans} (h:cutK0 G p s next=some r):∃ s',Sub C s s'/\next s'=some r:=by
 unfold cutK0 at h
 split at h
 .exact ⟨s,Sub.refl s,h⟩
 .split at h
  .rename_i s' hs; exact ⟨s',cutS_sub hG.ctx hs,h⟩
  .cases h
theorem cutK_get {G:Cfg} (hG:CfgOk G P C) {p:List Nat} {s:S} {next:S->Option Ans} {r:Ans} (h:cutK G p s next=some r):∃ s',Sub C s s'/\next s'=some r:=by
 unfold cutK at h
 split at h
 .exact cutK0_get hG h
 .split at h
  .rename_i s1 h1
   obtain ⟨s',h2,h3⟩:=cutK0_get hG h
   exact ⟨s',fun a w hs=>h2 a w (frzL_sub h1 a w hs),h3⟩
  .cases h
theorem T_scope {c:Code} {Q:Exit->S->Prop} (h:T P C c s (fun e s'=>match e with | .goto _=>False | e=>Q e s')):T P C (.scope c) s Q:=by
 intro a w hs
 refine wpIn_scope_straight (wpIn_mono (h a w hs) fun e a' w' ⟨s',hq,hs'⟩=>?_)
 cases e <;> first
  | exact hq.elim
  | exact ⟨s',hq,hs'⟩
theorem runC_sound {G:Cfg} (hG:CfgOk G P C) {again:List Nat->Code->S->K->Option Ans} {r:Ans}
 (hag:∀ (p:List Nat) (b:Code) (s:S) (k:K) (Q:Exit->S->Prop),again p b s k=some r->(∀ e s',k e s'=some r->Q e s')->T P C (.loop b) s Q):
 ∀ (c:Code) (p:List Nat) (s:S) (k:K) (Q:Exit->S->Prop),runC G again p c s k=some r->(∀ e s',k e s'=some r->Q e s')->T P C c s Q:=by
 intro c
 induction c with
 | skip=>intro p s k Q h hk; rw [runC] at h; exact T_skip (hk _ _ h)
 | label l=>intro p s k Q h hk; rw [runC] at h; exact T_label (hk _ _ h)
 | region id ops d=>
  intro p s k Q h hk
  rw [runC] at h
  obtain ⟨hP,henv,henvR,hctx,hmx⟩:=hG
  subst hP
  have hnt:=hctx.nt
  rw [<-hnt] at h
  split at h
  .rename_i s' ps ha
   split at h
   .split at h
    .rename_i hd
     obtain ⟨hp,hx⟩:=needs_get h
     cases d with
     | false=>intro a w hs; exact wpIn_region (aopsR_sound henv henvR _ ha hp hs fun a' w' hs'=>⟨s',hk _ _ hx,hs'⟩)
     | true=>
      simp only [Bool.not_true,Bool.false_or,Bool.and_eq_true,Bool.or_eq_true] at hd
      rcases hd.1 with hd1 | hd1
      .exact T_regiondW henv henvR hmx hd1 hd.2 ha hp (hk _ _ hx)
      .exact T_regiondS henv henvR hmx hd1 hd.2 ha hp (hk _ _ hx)
    .cases h
   .split at h
    .rename_i s2 ps2 hd hB
     obtain ⟨hp,hx⟩:=needs_get h
     obtain ⟨hp2,hx2⟩:=needs_get hx
     obtain ⟨h1,h2⟩:=agree_get hx2
     simp only [Bool.and_eq_true] at hd
     obtain ⟨hd0,hd1,hd2⟩:=hd
     subst hd0
     exact T_regiondD henv henvR hmx hd1 hd2 ha hB hp hp2 (hk _ _ h1) (hk _ _ h2)
    .cases h
   .cases h
  .cases h
 | seq x y ihx ihy=>
  intro p s k Q h hk
  rw [runC] at h
  refine T_seq (ihx _ _ _ _ h fun e s' he=>?_)
  cases e <;> first
   | (rw [kSeq_normal] at he
      obtain ⟨s2,hsub,h2⟩:=cutK_get hG he
      exact (ihy _ _ _ _ h2 hk).weaken hsub)
   | exact hk _ _ he
 | cond x y z ihy ihz=>
  intro p s k Q h hk
  rw [runC] at h
  split at h
  .rename_i c hc
   refine T_cond hc (fun hb=>?_) (fun hb=>?_)
   .rw [hb] at h; exact ihy _ _ _ _ h hk
   .rw [hb] at h; exact ihz _ _ _ _ h hk
  .cases h
 | block id x ih=>
  intro p s k Q h hk
  rw [runC] at h
  refine T_block (ih _ _ _ _ h fun e s' he=>?_)
  cases e <;> first
   | exact hk _ _ he
   | (simp only [kBlk] at he
      simp only [InBlock]
      split at he
      .rename_i hb; rw [if_pos (Nat.eq_of_beq_eq_true hb)]; exact hk _ _ he
      .rename_i hb; rw [if_neg (fun e=>by rw [e,Nat.beq_refl] at hb; cases hb)]; exact hk _ _ he)
 | loop b _=>
  intro p s k Q h hk
  rw [runC] at h
  obtain ⟨s',hsub,h2⟩:=cutK_get hG h
  exact (hag _ _ _ _ _ h2 hk).weaken hsub
 | scope x ih=>
  intro p s k Q h hk
  rw [runC] at h
  refine T_scope (ih _ _ _ _ h fun e s' he=>?_)
  cases e <;> first
   | exact hk _ _ he
   | cases he
 | exit id=>intro p s k Q h hk; rw [runC] at h; exact T_exit (hk _ _ h)
 | ret=>intro p s k Q h hk; rw [runC] at h; exact T_ret (hk _ _ h)
 | rangeFunc f ps x y=>intro p s k Q h hk; rw [runC] at h <;> first | cases h | (intros; contradiction)
 | goto l=>intro p s k Q h hk; rw [runC] at h <;> first | cases h | (intros; contradiction)
 | refuse l=>intro p s k Q h hk; rw [runC] at h <;> first | cases h | (intros; contradiction)
theorem runL_sound {G:Cfg} (hG:CfgOk G P C) {r:Ans}:∀ (n:Nat) (p:List Nat) (b:Code) (s:S) (k:K) (Q:Exit->S->Prop),runL G n p b s k=some r->(∀ e s',k e s'=some r->Q e s')->T P C (.loop b) s Q:=by
 intro n
 induction n using Nat.strongRecOn with
 | _ n ih=>
  intro p b s k Q h hk
  refine T_loop (fun m s=>m<=n/\runL G m p b s k=some r) (fun m s ⟨hm,hr⟩=>?_) n ⟨Nat.le_refl _,h⟩
  cases m with
  | zero=>cases hr
  | succ m=>
   have hr':runC G (runL G m) (0::p) b s (kSeq G p (fun s2=>runL G m p b s2 k) k)=some r:=hr
   refine runC_sound hG (fun p' b' s' k' Q'=>ih m (by omega) p' b' s' k' Q') b _ _ _ _ hr' fun e s' he=>?_
   cases e <;> first
    | (rw [kSeq_normal] at he
       obtain ⟨s2,hsub,h2⟩:=cutK_get hG he
       exact ⟨m,s2,Nat.lt_succ_self m,⟨by omega,h2⟩,hsub⟩)
    | exact hk _ _ he
noncomputable def kAt (G:Cfg):Nat->List Nat->List Nat->List Nat->Code->K->K
 | _,_,_,[],_,k=>k
 | F,fs,p,i::r,.seq a b,k=>match i with
  | 0=>kAt G F fs (0::p) r a (kSeq G (1::p) (fun s2=>runC G (runL G F) (1::p) b s2 k) k)
  | _=>kAt G F fs (1::p) r b k
 | F,fs,p,i::r,.cond _ a b,k=>match i with
  | 0=>kAt G F fs (0::p) r a k
  | _=>kAt G F fs (1::p) r b k
 | F,fs,p,_::r,.block id a,k=>kAt G F fs (0::p) r a (kBlk id k)
 | _,f::fs,p,_::r,.loop b,k=>kAt G f fs (0::p) r b (kSeq G p (fun s2=>runL G f p b s2 k) k)
 | F,fs,p,_::r,.scope a,k=>kAt G F fs (0::p) r a (kScp k)
 | _,_,_,_,_,k=>k
def lastF:Nat->List Nat->Nat
 | F,[]=>F
 | _,f::fs=>lastF f fs
def loopOf:Code->Code
 | .loop b=>b
 | c=>c
noncomputable def runB (G:Cfg) (c:Code) (k:K) (F:Nat) (fs path:List Nat) (l:List (Nat×AV)) (o:List (Nat×AObj)):Option Ans:=
 runC G (runL G (lastF F fs)) path.reverse (at_ c path) (mkS l o) (kAt G F fs [] path c k)
noncomputable def runR (G:Cfg) (c:Code) (k:K) (F:Nat) (fs path:List Nat) (f:Nat) (l:List (Nat×AV)) (o:List (Nat×AObj)):Option Ans:=
 runL G f path.reverse (loopOf (at_ c path)) (mkS l o) (kAt G F fs [] path c k)
def kP (P:Program) (rs:List ResultVar):K:=fun e s=>
 match e with
 | .normal=>match aresults P s rs with | some r=>some (r,[]) | none=>none
 | .ret=>match aresults P s rs with | some r=>some (r,[]) | none=>none
 | _=>none
def outs (s:S):List Nat->Option (List (Nat×AObj))
 | []=>some []
 | i::r=>match s.ob i with
  | some o=>match outs s r with
   | some l=>some ((i,o)::l)
   | none=>none
  | none=>none
def kRe (P:Program) (fx:List Nat) (c:Cut) (ids:List Nat) (rs:List ResultVar) (s:S):Option Ans:=
 match cutS fx c s with
 | some s'=>match aresultsR P s' rs with
  | some r=>match outs s' ids with
   | some l=>some (r,l)
   | none=>none
  | none=>none
 | none=>none
def kR (P:Program) (fx:List Nat) (c:Cut) (ids:List Nat) (rs:List ResultVar):K:=fun e s=>
 match e with
 | .normal=>kRe P fx c ids rs s
 | .ret=>kRe P fx c ids rs s
 | _=>none
def kReS (P:Program) (fx:List Nat) (c:Cut) (ids:List Nat) (rs:List ResultVar) (s:S):Option Ans:=
 match cutS fx c s with
 | some s'=>match aresults P s' rs with
  | some r=>match outs s' ids with
   | some l=>some (r,l)
   | none=>none
  | none=>none
 | none=>none
def kRS (P:Program) (fx:List Nat) (c:Cut) (ids:List Nat) (rs:List ResultVar):K:=fun e s=>
 match e with
 | .normal=>kReS P fx c ids rs s
 | .ret=>kReS P fx c ids rs s
 | _=>none
noncomputable def runF (G:Cfg) (fn:Func) (F:Nat) (args:List AV):Option Ans:=
 runC G (runL G F) [] (bodyOf fn) (sinit args) (kP G.P fn.results.toList)
noncomputable def runFR (G:Cfg) (fn:Func) (c:Cut) (ids:List Nat) (F:Nat) (args:List AV) (ib:List (Nat×AObj)):Option Ans:=
 runC G (runL G F) [] (bodyOf fn) (sinitR args ib) (kR G.P G.fx c ids fn.results.toList)
noncomputable def runFRS (G:Cfg) (fn:Func) (c:Cut) (ids:List Nat) (F:Nat) (args:List AV) (ib:List (Nat×AObj)):Option Ans:=
 runC G (runL G F) [] (bodyOf fn) (sinitR args ib) (kRS G.P G.fx c ids fn.results.toList)
theorem FnP_run {f:FuncId} {fn:Func} {args:List AV} {r:AV} (G:Cfg) (F:Nat) (hp:G.P=P) (henv:EnvOk P G.env) (henvR:EnvROk P G.envR) (hmx:P.follows .mixedOrders=true)
 (hf:P.funcs[f]?=some fn) (hb:(fn.body.isSome,Nat.ble args.length fn.ntmps,Nat.beq G.nt fn.ntmps)=(true,true,true)) (hfx:G.fx=[])
 (h:(∃ M vs,ARels γ0 M args vs)->runF G fn F args=some (r,[])):FnP P f args r:=by
 simp only [Prod.mk.injEq] at hb
 refine FnP_lift hf (by rw [hb.1,hb.2.1]) fun M vs hvs C hC=>?_
 have hG:CfgOk G P C:=⟨hp,henv,henvR,⟨hC.nt.trans (Nat.eq_of_beq_eq_true hb.2.2).symm,by rw [hfx]; exact hC.fx⟩,hmx⟩
 rw [at_nil]
 refine runC_sound hG (fun p b s k Q=>runL_sound hG F p b s k Q) _ _ _ _ _ (h ⟨M,vs,hvs⟩) fun e s' he=>?_
 subst hp
 cases e <;> first
  | cases he
  | (simp only [kP] at he
     split at he
     .rename_i r' hr; cases he; exact ⟨s',Sub.refl s',hr⟩
     .cases he)
theorem outs_spec {s:S}:∀ {ids:List Nat} {l:List (Nat×AObj)},outs s ids=some l->outsAre s l
 | [],l,h=>by cases h; rfl
 | i::r,l,h=>by
  simp only [outs] at h
  split at h
  .rename_i o ho
   split at h
   .rename_i l' hl
    cases h
    have:=outs_spec hl
    unfold outsAre at this ⊢
    simp only [List.map_cons,ho,this]
   .cases h
  .cases h
theorem FnR_run {f:FuncId} {fn:Func} {args:List AV} {ib:List (Nat×AObj)} {kept:List Nat} {r:AV} {os:List (Nat×AObj)} (G:Cfg) (c:Cut) (ids:List Nat) (F:Nat) (hp:G.P=P) (henv:EnvOk P G.env) (henvR:EnvROk P G.envR) (hmx:P.follows .mixedOrders=true)
 (hf:P.funcs[f]?=some fn) (hb:(fn.body.isSome,Nat.ble args.length fn.ntmps,Nat.beq G.nt fn.ntmps)=(true,true,true)) (hfx:G.fx=kept)
 (h:(∃ γ M w vs,ARels γ M args vs/\Objs γ M w (fun i=>lookO i ib) (fun b=>b < w.heap.size))->runFR G fn c ids F args ib=some (r,os)):FnR P f args ib kept r os:=by
 simp only [Prod.mk.injEq] at hb
 refine FnR_lift hf (by rw [hb.1,hb.2.1]) fun γ M w vs hvs hO C hC=>?_
 have hG:CfgOk G P C:=⟨hp,henv,henvR,⟨hC.nt.trans (Nat.eq_of_beq_eq_true hb.2.2).symm,by rw [hfx]; exact hC.fx⟩,hmx⟩
 rw [at_nil]
 refine runC_sound hG (fun p b s k Q=>runL_sound hG F p b s k Q) _ _ _ _ _ (h ⟨γ,M,w,vs,hvs,hO⟩) fun e s' he=>?_
 subst hp
 have fin:kRe G.P G.fx c ids fn.results.toList s'=some (r,os)->∃ s2,Sub C s' s2/\aresultsR G.P s2 fn.results.toList=some r/\outsAre s2 os:=by
  intro he
  unfold kRe at he
  split at he
  .rename_i s2 hs2
   split at he
   .rename_i r' hr
    split at he
    .rename_i l hl
     cases he
     exact ⟨s2,cutS_sub hG.ctx hs2,hr,outs_spec hl⟩
    .cases he
   .cases he
  .cases he
 cases e <;> first
  | cases he
  | exact fin he
theorem FnR_runS {f:FuncId} {fn:Func} {args:List AV} {ib:List (Nat×AObj)} {kept:List Nat} {r:AV} {os:List (Nat×AObj)} (G:Cfg) (c:Cut) (ids:List Nat) (F:Nat) (hp:G.P=P) (henv:EnvOk P G.env) (henvR:EnvROk P G.envR) (hmx:P.follows .mixedOrders=true)
 (hf:P.funcs[f]?=some fn) (hb:(fn.body.isSome,Nat.ble args.length fn.ntmps,Nat.beq G.nt fn.ntmps)=(true,true,true)) (hfx:G.fx=kept)
 (h:(∃ γ M w vs,ARels γ M args vs/\Objs γ M w (fun i=>lookO i ib) (fun b=>b < w.heap.size))->runFRS G fn c ids F args ib=some (r,os)):FnR P f args ib kept r os:=by
 simp only [Prod.mk.injEq] at hb
 refine FnR_liftS hf (by rw [hb.1,hb.2.1]) fun γ M w vs hvs hO C hC=>?_
 have hG:CfgOk G P C:=⟨hp,henv,henvR,⟨hC.nt.trans (Nat.eq_of_beq_eq_true hb.2.2).symm,by rw [hfx]; exact hC.fx⟩,hmx⟩
 rw [at_nil]
 refine runC_sound hG (fun p b s k Q=>runL_sound hG F p b s k Q) _ _ _ _ _ (h ⟨γ,M,w,vs,hvs,hO⟩) fun e s' he=>?_
 subst hp
 have fin:kReS G.P G.fx c ids fn.results.toList s'=some (r,os)->∃ s2,Sub C s' s2/\aresults G.P s2 fn.results.toList=some r/\outsAre s2 os:=by
  intro he
  unfold kReS at he
  split at he
  .rename_i s2 hs2
   split at he
   .rename_i r' hr
    split at he
    .rename_i l hl
     cases he
     exact ⟨s2,cutS_sub hG.ctx hs2,hr,outs_spec hl⟩
    .cases he
   .cases he
  .cases he
 cases e <;> first
  | cases he
  | exact fin he
end Go.Am
