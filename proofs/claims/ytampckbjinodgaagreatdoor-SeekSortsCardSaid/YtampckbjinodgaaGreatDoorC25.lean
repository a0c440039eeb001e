/-
  Lifted functions, and facts about them.
-/
import Derived.Test.YtampckbjinodgaaGreatDoorAmC
import Derived.Deep.Slices
import Derived.Carry
import Derived.Handed
import Derived.Shelf.Vars
import Derived.WalkKit
import Derived.ProofKit
import Derived.OpenShut
import Derived.Lib.LaidTab
import Derived.Deep.DeepHandedRow
set_option linter.unusedVariables false
namespace Go.Am
open Go Go.RowKit Go.ChangeShapes Go.WideShapes
def memOf (w:World):Mem:=fun b o=>w.cell? ⟨b,o,none⟩
theorem memOf_ok (w:World) (hg:GOk (memOf w)) (ht:TOk w):WOk (memOf w) w:=⟨⟨fun _ _ _ h=>h,hg⟩,ht⟩
inductive EcX (P:Program):Ec->TypeId ⊕ (List Field×Nat)->Prop
 | bool {t:TypeId} (h:P.underlying t=some .bool):EcX P .bool (.inl t)
 | int {k:IntKind} {t:TypeId} (h:P.underlying t=some (.int k)):EcX P (.int k) (.inl t)
 | str {t:TypeId} (h:P.underlying t=some .string):EcX P .str (.inl t)
 | list {e t:TypeId} {a:Ec} (h:P.underlying t=some (.slice e)) (hc:P.cellsOf e=wid a) (h1:1<=wid a) (ha:EcX P a (.inl e)):EcX P (.list a) (.inl t)
 | struct {t:TypeId} {fs:Array Field} {l:List Field} {c:Ec} (h:P.underlying t=some (.struct fs)) (hl:fs.toList=l) (hc:P.cellsOf t=wid c) (hf:EcX P c (.inr (l,0))):EcX P c (.inl t)
 | last {c:Ec} {f:Field} {o:Nat} (ho:f.offset=o) (hc:P.cellsOf f.type=wid c) (h:EcX P c (.inl f.type)):EcX P c (.inr ([f],o))
 | cons {a b:Ec} {f:Field} {fs:List Field} {o o2:Nat} (ho:f.offset=o) (hc:P.cellsOf f.type=wid a) (h:EcX P a (.inl f.type)) (h2:o2=o+wid a) (hr:EcX P b (.inr (fs,o2))):EcX P (.pair a b) (.inr (f::fs,o))
def lensB:(c:Ec)->Elt c->List Nat
 | .str,x=>[List.length (α:=UInt8) x]
 | .pair a b,x=>lensB a x.1++lensB b x.2
 | _,_=>[]
section
variable {H:Type} {enc:TypeId×Value->H} {P:Program} {w:World} {held:Bool}
theorem weightsEach_mem:∀ {ts:List TypeId} {ds:List (DataW H)} {i:Nat} {t:TypeId} {d:DataW H} {n:Nat},ts[i]?=some t->ds[i]?=some d->n ∈ d.weights P t->n ∈ DataW.weightsEach P ts ds
 | [],_,_,_,_,_,h,_,_=>by simp at h
 | _::_,[],_,_,_,_,_,h,_=>by simp at h
 | u::ts,e::ds,0,t,d,n,h1,h2,h3=>by
  simp at h1 h2; subst h1; subst h2
  rw [DataW.weightsEach]; exact List.mem_append_left _ h3
 | u::ts,e::ds,i+1,t,d,n,h1,h2,h3=>by
  rw [DataW.weightsEach]; exact List.mem_append_right _ (weightsEach_mem (by simpa using h1) (by simpa using h2) h3)
theorem weightsAll_mem {e:TypeId}:∀ {ds:List (DataW H)} {d:DataW H} {n:Nat},d ∈ ds->n ∈ d.weights P e->n ∈ DataW.weightsAll P e ds
 | [],_,_,h,_=>by cases h
 | d'::ds,d,n,h,hn=>by
  rw [DataW.weightsAll]
  rcases List.mem_cons.1 h with h | h
  .subst h; exact List.mem_append_left _ hn
  .exact List.mem_append_right _ (weightsAll_mem h hn)
theorem spot_add {b off n:Nat}:(⟨b,off,none⟩:Addr).add n=⟨b,off+n,none⟩:=by
 unfold Addr.add
 split
 .rename_i h; subst h; rfl
 .rfl
theorem open_ec {c:Ec} {x:TypeId ⊕ (List Field×Nat)} (h:EcX P c x):match x with
 | .inl t=>∀ (fuel:Nat) (cs:List Value) (y:DataW H×List MemPlace),DataW.trod enc P w 0 (fun _=>true) held fuel t cs=some y->∃ d:Elt c,(∀ j,j < wid c->PRel (memOf w) (cell c d j) (cs.getD j undef))/\∀ n ∈ lensB c d,n ∈ y.1.weights P t
 | .inr (fs,o)=>∀ (fuel:Nat) (cs:List Value),(∀ f ∈ fs,∃ y,DataW.trod enc P w 0 (fun _=>true) held fuel f.type ((cs.drop f.offset).take (P.cellsOf f.type))=some y)->
  ∃ d:Elt c,(∀ j,j < wid c->PRel (memOf w) (cell c d j) (cs.getD (o+j) undef))/\∀ n ∈ lensB c d,∃ f ∈ fs,∃ y,DataW.trod enc P w 0 (fun _=>true) held fuel f.type ((cs.drop f.offset).take (P.cellsOf f.type))=some y/\n ∈ y.1.weights P f.type:=by
 induction h with
 | bool h=>
  intro fuel cs y hy
  obtain ⟨b,rfl,_⟩:=DataW.trod_bool h hy
  exact ⟨b, fun j hj => by have : j = 0 := by (have := hj; simp only [wid] at this; omega)
                           subst this; exact .bool b,fun n hn=>by cases hn⟩
 | int h=>
  intro fuel cs y hy
  obtain ⟨n,rfl,_,hw⟩:=DataW.trod_int h hy
  exact ⟨n, fun j hj => by have : j = 0 := by (have := hj; simp only [wid] at this; omega)
                           subst this; exact .int _ n (has_wf hw),fun n hn=>by cases hn⟩
 | str h=>
  intro fuel cs y hy
  obtain ⟨s,rfl,hy',hw⟩:=DataW.trod_string h hy
  refine ⟨s.data.toList, fun j hj => by have : j = 0 := by (have := hj; simp only [wid] at this; omega)
                                        subst this; exact .str s.data.toList (by rw [Array.length_toList]; exact hw),fun n hn=>?_⟩
  subst hy'
  rw [DataW.weights]; exact hn
 | list h hc h1 ha ih=>
  intro fuel cs y hy
  rename_i e t a
  rcases Go.Deep.open_slice h hy with ⟨rfl,_⟩ | ⟨q,len,cap,m,n,D,Pl,rfl,hb,hl,hm,hmm,hdd,hx⟩
  · exact ⟨[], fun j hj => by have : j = 0 := by (have := hj; simp only [wid] at this; omega)
                              subst this; exact .listNil _ _ rfl,fun n hn=>by cases hn⟩
  .have hmc:m=cap:=by simpa using hmm
   subst hmc
   obtain ⟨cs,hcs⟩:=Go.Deep.choose_lt (α:=List Value) (p:=fun i cs'=>w.cells? 0 (q.add (i * P.cellsOf e)) (P.cellsOf e)=some cs'/\DataW.trod enc P w 0 (fun _=>true) held n e cs'=some (D i,Pl i)) hx
   have hex:∀ i,i < m->∃ d:Elt a,(∀ j,j < wid a->PRel (memOf w) (cell a d j) ((cs i).getD j undef))/\∀ k ∈ lensB a d,k ∈ (D i).weights P e:=fun i hi=>ih n (cs i) _ (hcs i hi).2
   letI:Inhabited (Elt a):=⟨dfl a⟩
   obtain ⟨E,hE⟩:=Go.Deep.choose_lt hex
   have hlen:((List.range len).map E).length=len:=by simp
   refine ⟨(List.range len).map E,fun j hj=>?_,fun n hn=>by cases hn⟩
   have hj0:j=0:=by have:=hj; simp only [wid] at this; omega
   subst hj0
   show PRel (memOf w) (.list (wid a) (.dat a ((List.range len).map E))) (.slice (some q) len m)
   by_cases hm0:m=0
   .subst hm0
    obtain rfl:len=0:=by omega
    exact .listZero _ _ _ rfl
   .obtain ⟨bl,off,sp⟩:=q
    have hspot:sp=none:=by
     obtain ⟨_,h2,h3⟩:=World.cells?_some (hcs 0 (by omega)).1
     have:=h3 0 (by rw [hc]; omega)
     rw [List.getElem?_eq_getElem (by rw [h2,hc]; omega)] at this
     simpa [Addr.add] using World.cell?_spot this
    subst hspot
    have hget:∀ i,i < len->((List.range len).map E).getD i (dfl a)=E i:=fun i hi=>by
     rw [List.getD_eq_getElem?_getD,List.getElem?_map,List.getElem?_range hi]; rfl
    have key:PRel (memOf w) (.list (wid a) (.dat a ((List.range len).map E))) (.slice (some ⟨bl,off,none⟩) (Rows.dat a ((List.range len).map E)).n m):=by
     refine .list _ _ bl off m (fun i j=>(cs i).getD j undef) ?_ ?_ (fun i j hi hj=>?_) (fun i j hi hj=>?_)
     .show ((List.range len).map E).length<=maxLen
      rw [hlen]; exact Nat.le_trans hl hm
     .show ((List.range len).map E).length<=m
      rw [hlen]; exact hl
     · have hi' : i < len := by have : i < ((List.range len).map E).length := hi
                                rwa [hlen] at this
       obtain ⟨_,h2,h3⟩:=World.cells?_some (hcs i (by omega)).1
       have:=h3 j (by rw [hc]; exact hj)
       rw [spot_add,spot_add,hc] at this
       show w.cell? ⟨bl,off+i * wid a+j,none⟩=_
       rw [this,List.getD_eq_getElem?_getD,List.getElem?_eq_getElem (by rw [h2,hc]; exact hj)]
       rfl
     · have hi' : i < len := by have : i < ((List.range len).map E).length := hi
                                rwa [hlen] at this
       show PRel _ (cell a (((List.range len).map E).getD i (dfl a)) j) _
       rw [hget i hi']
       exact (hE i (by omega)).1 j hj
    have hn:(Rows.dat a ((List.range len).map E)).n=len:=hlen
    rw [hn] at key
    exact key
 | struct h hl hc hf ih=>
  intro fuel cs y hy
  obtain ⟨xs,n,rfl,hy',hlen,hxs,hall⟩:=DataW.trod_struct h hy
  rename_i t fs l c
  have hgo:∀ f ∈ l,∃ (i:Nat) (hi:i < xs.length),fs.toList[i]?=some f/\DataW.trod enc P w 0 (fun _=>true) held n f.type ((cs.drop f.offset).take (P.cellsOf f.type))=some xs[i]:=fun f hf=>by
   rw [<-hl] at hf
   obtain ⟨i,hi⟩:=List.getElem?_of_mem hf
   have hi':=hi
   rw [Array.getElem?_toList] at hi'
   have hlt:i < xs.length:=by
    rw [hxs]
    have:=(List.getElem?_eq_some_iff.1 hi).1
    simpa using this
   have:=hall i f hi'
   rw [List.getElem?_eq_getElem hlt] at this
   exact ⟨i,hlt,hi,this⟩
  obtain ⟨d,hd,hw⟩:=ih n cs fun f hf=>by
   obtain ⟨i,hi,_,h2⟩:=hgo f hf
   exact ⟨_,h2⟩
  refine ⟨d,fun j hj=>by have:=hd j hj; rwa [Nat.zero_add] at this,fun k hk=>?_⟩
  obtain ⟨f,hf,y2,h2,h3⟩:=hw k hk
  obtain ⟨i,hi,h4,h5⟩:=hgo f hf
  rw [h5] at h2; cases h2
  subst hy'
  rw [DataW.weights,h]
  refine weightsEach_mem (i:=i) (t:=f.type) (d:=xs[i].1) ?_ ?_ h3
  .rw [List.getElem?_map,h4]; rfl
  .rw [List.getElem?_map,List.getElem?_eq_getElem hi]; rfl
 | last ho hc h ih=>
  intro fuel cs hall
  obtain ⟨y,hy⟩:=hall _ (List.mem_singleton.2 rfl)
  obtain ⟨d,hd,hw⟩:=ih fuel _ y hy
  refine ⟨d,fun j hj=>?_,fun n hn=>⟨_,List.mem_singleton.2 rfl,y,hy,hw n hn⟩⟩
  have:=hd j hj
  rw [List.getD_eq_getElem?_getD,List.getElem?_take_of_lt (by rw [hc]; exact hj),List.getElem?_drop,ho,<-List.getD_eq_getElem?_getD] at this
  exact this
 | cons ho hc h h2 hr ih ihr=>
  intro fuel cs hall
  obtain ⟨y,hy⟩:=hall _ (List.mem_cons_self ..)
  obtain ⟨d,hd,hw⟩:=ih fuel _ y hy
  obtain ⟨d2,hd2,hw2⟩:=ihr fuel cs fun f hf=>hall f (List.mem_cons_of_mem _ hf)
  rename_i a b f fs o o2
  refine ⟨(d,d2),fun j hj=>?_,fun n hn=>?_⟩
  .simp only [cell]
   cases hlt:Nat.blt j (wid a) with
   | true=>
    have hlt:j < wid a:=Nat.le_of_ble_eq_true hlt
    have:=hd j hlt
    rw [List.getD_eq_getElem?_getD,List.getElem?_take_of_lt (by rw [hc]; exact hlt),List.getElem?_drop,ho,<-List.getD_eq_getElem?_getD] at this
    exact this
   | false=>
    have hge:wid a<=j:=by
     rcases Nat.lt_or_ge j (wid a) with h5 | h5
     .have:Nat.blt j (wid a)=true:=Nat.ble_eq_true_of_le h5
      rw [this] at hlt; cases hlt
     .exact h5
    have hj':j < wid a+wid b:=hj
    have:=hd2 (j - wid a) (by omega)
    rw [h2,show o+wid a+(j - wid a)=o+j by omega] at this
    exact this
  .rcases List.mem_append.1 hn with hn | hn
   .exact ⟨f,List.mem_cons_self ..,y,hy,hw n hn⟩
   .obtain ⟨f',hf',y',h1,h2⟩:=hw2 n hn
    exact ⟨f',List.mem_cons_of_mem _ hf',y',h1,h2⟩
theorem okWide_spot {r:Reach} {b0:Nat} {t e:TypeId} {a:Addr} {len cap:Nat} (ht:P.underlying t=some (.slice e)) (h:Value.okWide P w r b0 t (.slice (some a) len cap)):a.spot=none:=by
 unfold Value.okWide at h
 rw [ht] at h
 simp only [Cell.okWide,Cell.ok,ht] at h
 exact h.2.2.2.1
theorem open_list {r:Reach} {b0:Nat} {t e:TypeId} {a:Ec} {v:Value} {d:DataW H} {ps:List MemPlace} (ht:P.underlying t=some (.slice e)) (hc:P.cellsOf e=wid a) (ha:EcX P a (.inl e))
 (hval:Value.okWide P w r b0 t v) (hd:DataW.Trod enc P w 0 (fun _=>true) held t v d ps):∃ l:List (Elt a),ARel γ0 (memOf w) (.p (.list (wid a) (.dat a l))) v/\(∀ x ∈ l,∀ n ∈ lensB a x,n ∈ d.weights P t)/\(l≠[]->∃ m,l.length<=m/\m * P.bytesOf e ∈ d.weights P t):=by
 obtain ⟨a0,len,cap,rfl⟩:=okWide_slice ht hval
 obtain ⟨fuel,hf⟩:=hd
 rcases Go.Deep.open_slice ht hf with ⟨h0,_⟩ | ⟨q,len',cap',m,n,D,Pl,h0,hb,hl,hm,hmm,hdd,hx⟩
 .simp only [Value.cells,List.cons.injEq,Value.slice.injEq,and_true] at h0
  obtain ⟨rfl,rfl,rfl⟩:=h0
  exact ⟨[],.p _ _ (.listNil _ _ rfl),fun x hx=>(by cases hx),fun h=>absurd rfl h⟩
 .simp only [Value.cells,List.cons.injEq,Value.slice.injEq,and_true] at h0
  obtain ⟨rfl,rfl,rfl⟩:=h0
  have hspot:=okWide_spot ht hval
  obtain ⟨bl,off,sp⟩:=q
  dsimp only at hspot
  subst hspot
  have hlm:len<=m:=by rw [hmm]; split <;> omega
  obtain ⟨cs,hcs⟩:=Go.Deep.choose_lt (α:=List Value) (p:=fun i cs'=>w.cells? 0 ((⟨bl,off,none⟩:Addr).add (i * P.cellsOf e)) (P.cellsOf e)=some cs'/\DataW.trod enc P w 0 (fun _=>true) held n e cs'=some (D i,Pl i)) hx
  have hex:∀ i,i < m->∃ d:Elt a,(∀ j,j < wid a->PRel (memOf w) (cell a d j) ((cs i).getD j undef))/\∀ k ∈ lensB a d,k ∈ (D i).weights P e:=fun i hi=>open_ec ha n (cs i) _ (hcs i hi).2
  letI:Inhabited (Elt a):=⟨dfl a⟩
  obtain ⟨E,hE⟩:=Go.Deep.choose_lt hex
  have hlen:((List.range len).map E).length=len:=by simp
  have hd1:d=.slice ((List.range len).map D) ((List.range (m - len)).map fun j=>D (len+j)):=congrArg Prod.fst hdd
  have hwd:d.weights P t=(((List.range len).map D).length+((List.range (m - len)).map fun j=>D (len+j)).length) * P.bytesOf e::(DataW.weightsAll P e ((List.range len).map D)++DataW.weightsAll P e ((List.range (m - len)).map fun j=>D (len+j))):=by
   rw [hd1,DataW.weights,ht]
  refine ⟨(List.range len).map E,?_,fun x hx k hk=>?_,fun _=>⟨_,?_,by rw [hwd]; exact List.mem_cons_self ..⟩⟩
  rotate_left
  .obtain ⟨i,hi,rfl⟩:=List.mem_map.1 hx
   have hi:=List.mem_range.1 hi
   rw [hwd]
   refine List.mem_cons_of_mem _ (List.mem_append_left _ (weightsAll_mem (d:=D i) (List.mem_map.2 ⟨i,List.mem_range.2 hi,rfl⟩) ((hE i (by omega)).2 k hk)))
  .simp
  have hget:∀ i,i < len->((List.range len).map E).getD i (dfl a)=E i:=fun i hi=>by
   rw [List.getD_eq_getElem?_getD,List.getElem?_map,List.getElem?_range hi]; rfl
  have key:PRel (memOf w) (.list (wid a) (.dat a ((List.range len).map E))) (.slice (some ⟨bl,off,none⟩) (Rows.dat a ((List.range len).map E)).n cap):=by
   refine .list _ _ bl off cap (fun i j=>(cs i).getD j undef) ?_ ?_ (fun i j hi hj=>?_) (fun i j hi hj=>?_)
   .show ((List.range len).map E).length<=maxLen
    rw [hlen]; exact Nat.le_trans hl hm
   .show ((List.range len).map E).length<=cap
    rw [hlen]; exact hl
   · have hi' : i < len := by have : i < ((List.range len).map E).length := hi
                              rwa [hlen] at this
     obtain ⟨_,h2,h3⟩:=World.cells?_some (hcs i (by omega)).1
     have:=h3 j (by rw [hc]; exact hj)
     rw [spot_add,spot_add,hc] at this
     show w.cell? ⟨bl,off+i * wid a+j,none⟩=_
     rw [this,List.getD_eq_getElem?_getD,List.getElem?_eq_getElem (by rw [h2,hc]; exact hj)]
     rfl
   · have hi' : i < len := by have : i < ((List.range len).map E).length := hi
                              rwa [hlen] at this
     show PRel _ (cell a (((List.range len).map E).getD i (dfl a)) j) _
     rw [hget i hi']
     exact (hE i (by omega)).1 j hj
  have hn:(Rows.dat a ((List.range len).map E)).n=len:=hlen
  rw [hn] at key
  exact .p _ _ key
end
theorem walk_of_FnP2 {P:Program} {f:FuncId} {args:List AV} (h:FnP P f args (.p (.bool true))) {vs:List Value} (w:World) (hg:GOk (memOf w)) (ht:TOk w) (hv:ARels γ0 (memOf w) args vs):
 Calls P f vs.toArray w fun e w'=>e=.returned (.bool true)/\Below w.heap.size w w':=by
 refine (h (memOf w) w vs (memOf_ok w hg ht) hv).mono fun e w' ⟨v,M',he,_,_,_,hr,hb⟩=>?_
 rw [hr.bool_inv] at he
 exact ⟨he,hb⟩
theorem bool_argM (M:Mem) (b:Bool):ARel γ0 M (.p (.bool b)) (.bool b):=.p _ _ (.bool b)
end Go.Am
set_option linter.unusedVariables false
namespace Go.Am
open Go Go.RowKit Go.ChangeShapes Go.WideShapes Go.ChangeAt
variable {H:Type} {enc:TypeId×Value->H}
theorem returns_shaped {a:Assume} {C:Checked} {os:Os} {f:FuncId} {fn:Func} {s:ChangeSpec} {conds:List PathCond} {apart fresh handsOn again:Bool} {X:World->Array Value->Prop}
 (own:ownKnob C.prog.godebug=none) (started:os.Started) (noInit:C.prog.inits.idxOf? f=none) (hfn:C.prog.funcs[f]?=some fn)
 (witness:∃ (w:World) (tape:Tape) (i:Input),w.os=os/\(w.forCall tape i).Shaped C.prog/\i.vars=[]/\Input.okWide C.prog (w.forCall tape i) .any w.heap.size f i/\
  ((s.pre enc C.prog fn conds apart (w.forCall tape i).memory i.args/\X (w.forCall tape i).memory i.args)/\sizedMet enc C.prog fn (OpenSpec.ofChange s) apart (w.forCall tape i).memory i.args)/\a.holds C.prog (lone (Frame.enter C.prog f i.args .normal) [] (w.forCall tape i)))
 (contract:∀ (W:World) (base:Nat) (args:Array Value) (ds gs:List (DataW H)) (before:List MemPlace),W.ShapedOpen C.prog->(∃ W0:World,W0.heap=W.heap/\X W0 args)->
  (∀ (j:Nat) t v,fn.params[j]?=some t->args[j]?=some v->Value.okWide C.prog W .any base t v)->
  DataW.Whole enc C.prog fn.params.toList s.vars apart W args.toList ds gs before->
  (DataW.weightsEach C.prog (fn.params.toList++s.plain.varTypes C.prog) (ds++gs)).all (·<=reachBytes)=true->
  Calls C.prog f args W fun e W'=>∃ v,e=.returned v/\s.post enc C.prog fn apart fresh handsOn again W args v W'):
 ReturnsInHanded a C os f .any (fun w args=>(s.pre enc C.prog fn conds apart w args/\X w args)/\sizedMet enc C.prog fn (OpenSpec.ofChange s) apart w args) (s.post enc C.prog fn apart fresh handsOn again):=by
 refine returnsInHanded_of_calls own started noInit witness ?_
 intro w tape i _ hsh _ hok hpre _
 obtain ⟨_,_,_,fn',hfn',_,_,_,_,hval⟩:=hok
 have e:fn'=fn:=Option.some.inj (hfn'.symm.trans hfn)
 subst e
 obtain ⟨⟨⟨ds,gs,before,hw,_⟩,hX⟩,hz⟩:=hpre
 have hw':=DataW.Whole.of_heap (w':=w.forCall tape i) (by rfl) hw
 refine (contract (w.forCall tape i) w.heap.size i.args ds gs before hsh ⟨(w.forCall tape i).memory,rfl,hX⟩ hval hw' (hz.weights hw)).mono fun e W' ⟨v,he,hp⟩=>?_
 subst he
 exact ChangeSpec.post_blind hp
end Go.Am
set_option linter.unusedVariables false
namespace Go.Am
open Go Go.RowKit Go.ChangeShapes Go.WideShapes
section
variable {H:Type} {enc:TypeId×Value->H} {P:Program} {w:World} {held:Bool}
theorem open_listN {r:Reach} {b0:Nat} {t e:TypeId} {a:Ec} {v:Value} {d:DataW H} {ps:List MemPlace} (ht:P.underlying t=some (.slice e)) (hc:P.cellsOf e=wid a) (ha:EcX P a (.inl e))
 (hval:Value.okWide P w r b0 t v) (hd:DataW.Trod enc P w 0  (fun _=>true) held t v d ps):∃ l:List (Elt a),ARel γ0 (memOf w) (.p (.list (wid a) (.dat a l))) v/\(l=[]\/∃ es sp,d=.slice es sp/\es.length=l.length):=by
 obtain ⟨a0,len,cap,rfl⟩:=okWide_slice ht hval
 obtain ⟨fuel,hf⟩:=hd
 rcases Go.Deep.open_slice ht hf with ⟨h0,_⟩ | ⟨q,len',cap',m,n,D,Pl,h0,hb,hl,hm,hmm,hdd,hx⟩
 .simp only [Value.cells,List.cons.injEq,Value.slice.injEq,and_true] at h0
  obtain ⟨rfl,rfl,rfl⟩:=h0
  exact ⟨[],.p _ _ (.listNil _ _ rfl),.inl rfl⟩
 .simp only [Value.cells,List.cons.injEq,Value.slice.injEq,and_true] at h0
  obtain ⟨rfl,rfl,rfl⟩:=h0
  have hspot:=okWide_spot ht hval
  obtain ⟨bl,off,sp⟩:=q
  dsimp only at hspot
  subst hspot
  have hlm:len<=m:=by rw [hmm]; split <;> omega
  obtain ⟨cs,hcs⟩:=Go.Deep.choose_lt (α:=List Value) (p:=fun i cs'=>w.cells? 0 ((⟨bl,off,none⟩:Addr).add (i * P.cellsOf e)) (P.cellsOf e)=some cs'/\DataW.trod enc P w 0  (fun _=>true) held n e cs'=some (D i,Pl i)) hx
  have hex:∀ i,i < m->∃ d:Elt a,(∀ j,j < wid a->PRel (memOf w) (cell a d j) ((cs i).getD j undef))/\∀ k ∈ lensB a d,k ∈ (D i).weights P e:=fun i hi=>open_ec ha n (cs i) _ (hcs i hi).2
  letI:Inhabited (Elt a):=⟨dfl a⟩
  obtain ⟨E,hE⟩:=Go.Deep.choose_lt hex
  have hlen:((List.range len).map E).length=len:=by simp
  have hd1:d=.slice ((List.range len).map D) ((List.range (m - len)).map fun j=>D (len+j)):=congrArg Prod.fst hdd
  refine ⟨(List.range len).map E,?_,.inr ⟨_,_,hd1,by simp⟩⟩
  have hget:∀ i,i < len->((List.range len).map E).getD i (dfl a)=E i:=fun i hi=>by
   rw [List.getD_eq_getElem?_getD,List.getElem?_map,List.getElem?_range hi]; rfl
  have key:PRel (memOf w) (.list (wid a) (.dat a ((List.range len).map E))) (.slice (some ⟨bl,off,none⟩) (Rows.dat a ((List.range len).map E)).n cap):=by
   refine .list _ _ bl off cap (fun i j=>(cs i).getD j undef) ?_ ?_ (fun i j hi hj=>?_) (fun i j hi hj=>?_)
   .show ((List.range len).map E).length<=maxLen
    rw [hlen]; exact Nat.le_trans hl hm
   .show ((List.range len).map E).length<=cap
    rw [hlen]; exact hl
   · have hi' : i < len := by have : i < ((List.range len).map E).length := hi
                              rwa [hlen] at this
     obtain ⟨_,h2,h3⟩:=World.cells?_some (hcs i (by omega)).1
     have:=h3 j (by rw [hc]; exact hj)
     rw [spot_add,spot_add,hc] at this
     show w.cell? ⟨bl,off+i * wid a+j,none⟩=_
     rw [this,List.getD_eq_getElem?_getD,List.getElem?_eq_getElem (by rw [h2,hc]; exact hj)]
     rfl
   · have hi' : i < len := by have : i < ((List.range len).map E).length := hi
                              rwa [hlen] at this
     show PRel _ (cell a (((List.range len).map E).getD i (dfl a)) j) _
     rw [hget i hi']
     exact (hE i (by omega)).1 j hj
  have hn:(Rows.dat a ((List.range len).map E)).n=len:=hlen
  rw [hn] at key
  exact .p _ _ key
end
end Go.Am
