/-
  Lifted functions, and facts about them.
-/
import Derived.Test.YtampckbjinodgaaGreatDoorC10
import Derived.RangeFuncLeaves
import Derived.Test.YtampckbjinodgaaGreatDoorRows
import Derived.Test.YtampckbjinodgaaGreatDoorAmC
import Derived.Test.YtampckbjinodgaaGreatDoorC01
import Derived.Test.YtampckbjinodgaaGreatDoorC06
import Derived.Test.YtampckbjinodgaaGreatDoorC04
set_option linter.unusedVariables false
namespace Go.Am
open Go Go.RowKit
variable {P:Program} {C C':Ctx} {s s':S} {a a':Act} {w w' w1 w2:World} {γ γ' γ1 γ2:Nat->Option G} {M M' M1 M2:Mem} {o o' o1 o2:List (Nat×AObj)}
structure Hold (γ:Nat->Option G) (M:Mem) (w:World) (o:List (Nat×AObj)):Prop where
 ob:∀ id x,lookO id o=some x->OM γ M w id x
 us:∀ id,lookO id o=none->γ id=none
 sep:∀ id id' g g' b,lookO id o≠none->lookO id' o≠none->γ id=some g->γ id'=some g'->g.blk=some b->g'.blk=some b->id=id'
 lt:∀ id g b,lookO id o≠none->γ id=some g->g.blk=some b->b < w.heap.size
 mem:HOk γ o M w
structure Chg (γ:Nat->Option G) (o:List (Nat×AObj)) (M:Mem) (w:World) (γ':Nat->Option G) (o':List (Nat×AObj)) (M':Mem) (w':World):Prop where
 size:w.heap.size<=w'.heap.size
 os:w'.os=w.os
 tape:w'.tape=w.tape
 output:w'.output=w.output
 le:MLe M M'
 old:∀ b,b < w.heap.size->¬ Handed γ o b->w'.heap[b]?=w.heap[b]?/\M' b=M b
 new:∀ b,Handed γ' o' b->w.heap.size<=b\/Handed γ o b
theorem HOk.chg (h:HOk γ o M w) (hm:MOk M' w') (hc:Chg γ o M w γ' o' M' w'):HOk γ' o' M' w':=by
 refine ⟨⟨hm,h.tabs.keep fun b hb ht=>(hc.old b hb fun hh=>h.hand b hh ht).1⟩,fun b hb ht=>?_⟩
 rcases hc.new b hb with h1 | h1
 .have:=h.tabs.lt ht; omega
 .exact h.hand b h1 ht
theorem Chg.refl:Chg γ o M w γ o M w:=⟨Nat.le_refl _,rfl,rfl,rfl,MLe.refl M,fun _ _ _=>⟨rfl,rfl⟩,fun _ h=>.inr h⟩
theorem Chg.trans (h:Chg γ o M w γ1 o1 M1 w1) (k:Chg γ1 o1 M1 w1 γ2 o2 M2 w2):Chg γ o M w γ2 o2 M2 w2:=by
 have hn:∀ b,b < w.heap.size->¬ Handed γ o b->¬ Handed γ1 o1 b:=fun b hb hh h2=>(h.new b h2).elim (fun h3=>by omega) hh
 refine ⟨Nat.le_trans h.size k.size,k.os.trans h.os,k.tape.trans h.tape,k.output.trans h.output,h.le.trans k.le,fun b hb hh=>?_,fun b hb=>?_⟩
 .have h1:=h.old b hb hh
  have h2:=k.old b (Nat.lt_of_lt_of_le hb h.size) (hn b hb hh)
  exact ⟨h2.1.trans h1.1,h2.2.trans h1.2⟩
 .rcases k.new b hb with h1 | h1
  .exact .inl (Nat.le_trans h.size h1)
  .exact h.new b h1
def ctxOf (w:World) (M:Mem) (γ:Nat->Option G) (o:List (Nat×AObj)) (kept:List Nat) (nt:Nat) (rd:Option Nat) (dl:List Deferred):Ctx:=
 { w0:=w,M0:=M,own:=Handed γ o,nt:=nt,g0:=fun i=>match elemB i kept with | true=>γ i | false=>none,rd:=rd,dl:=dl }
theorem ctxOf_ok {kept:List Nat} {nt:Nat} {rd:Option Nat} {dl:List Deferred}:CtxOk (ctxOf w M γ o kept nt rd dl) nt kept:=by
 refine ⟨rfl,fun i g hg=>?_⟩
 simp only [ctxOf] at hg
 split at hg
 .rename_i he; exact elemB_spec.1 he
 .cases hg
theorem Hold.lend (h:Hold γ M w o) {l:List (Nat×AV)} {kept:List Nat} {nt:Nat} {rd:Option Nat} {dl:List Deferred} (hsl:∀ t,ARel γ M (look t .any l) (a.tmps.getD t undef)) (hd:a.defers=dl) (hn:a.tmps.size=nt):
 StG (ctxOf w M γ o kept nt rd dl) γ M (mkS l o) a w:=by
 refine ⟨hsl,h.ob,fun id hu=>h.us id ?_,h.sep,fun id g b h1 h2 h3=>⟨.inr ⟨id,g,h1,h2,h3⟩,h.lt id g b h1 h2 h3⟩,h.mem.toMOk,MLe.refl M,fun _ _ _=>rfl,⟨rfl,rfl,rfl,Nat.le_refl _,fun _ _ _=>rfl,h.mem.tabs,h.mem.hand⟩,hd,hn,fun i g hg=>?_⟩
 .have hu:(lookO id o).isSome=false:=hu
  cases hl:lookO id o with
  | none=>rfl
  | some _=>rw [hl] at hu; cases hu
 .simp only [ctxOf] at hg
  split at hg
  .exact hg
  .cases hg
theorem Hold.back {l:List (Nat×AV)} {kept:List Nat} {nt:Nat} {rd:Option Nat} {dl:List Deferred} (h:StG (ctxOf w M γ o kept nt rd dl) γ' M' (mkS l o') a w'):
 Hold γ' M' w' o'/\Chg γ o M w γ' o' M' w'/\(∀ i ∈ kept,∀ g,γ i=some g->γ' i=some g)/\(∀ t,ARel γ' M' (look t .any l) (a.tmps.getD t undef))/\a.defers=dl/\a.tmps.size=nt:=by
 refine ⟨⟨h.ob,fun id hu=>h.us id ?_,h.sep,fun id g b h1 h2 h3=>(h.lo id g b h1 h2 h3).2,⟨h.wok,fun b ⟨id,g,h1,h2,h3⟩=>h.notab h1 h2 h3⟩⟩,⟨h.fr.size,h.fr.os,h.fr.tape,h.fr.output,h.le,fun b hb hh=>⟨h.fr.block b hb hh,h.new b hb hh⟩,fun b ⟨id,g,h1,h2,h3⟩=>(h.lo id g b h1 h2 h3).1⟩,fun i hi g hg=>h.gl i g ?_,h.sl,h.df,h.nt⟩
 .show (lookO id o').isSome=false
  rw [hu]; rfl
 .simp only [ctxOf]
  rw [elemB_spec.2 hi]; exact hg
theorem heap_push_lt {w:World} {x:Obj} {b:Nat} (hb:b < w.heap.size):(w.alloc x).heap[b]?=w.heap[b]?:=by
 show (w.heap.push x)[b]?=_
 rw [Array.getElem?_push_lt hb,Array.getElem?_eq_getElem hb]
theorem Hold.addraw (h:Hold γ M w o) {id:Nat} (hid:lookO id o=none) (x:Obj):
 Hold (upd γ id (some (.cell w.heap.size))) M (w.alloc x) ((id,.raw x)::o)/\Chg γ o M w (upd γ id (some (.cell w.heap.size))) ((id,.raw x)::o) M (w.alloc x):=by
 have hγ:GLe γ (upd γ id (some (.cell w.heap.size))):=by
  intro i g' hi
  by_cases e:i=id
  .subst e; rw [h.us i hid] at hi; cases hi
  .rw [upd_ne _ _ e]; exact hi
 have hl:∀ {i},i≠id->lookO i ((id,.raw x)::o)=lookO i o:=by
  intro i hi
  show (match Nat.beq i id with | true=>some (AObj.raw x) | false=>lookO i o)=_
  cases hb:Nat.beq i id with
  | true=>exact absurd (Nat.eq_of_beq_eq_true hb) hi
  | false=>rfl
 have hsame:lookO id ((id,AObj.raw x)::o)=some (.raw x):=by
  show (match Nat.beq id id with | true=>some (AObj.raw x) | false=>lookO id o)=_
  rw [Nat.beq_refl]
 have hg:∀ {i g b},i≠id->lookO i o≠none->γ i=some g->g.blk=some b->b < w.heap.size:=fun _ h1 h2 h3=>h.lt _ _ _ h1 h2 h3
 have hC:Chg γ o M w (upd γ id (some (.cell w.heap.size))) ((id,.raw x)::o) M (w.alloc x):=by
  refine ⟨by simp,rfl,rfl,rfl,MLe.refl M,fun b hb _=>⟨heap_push_lt hb,rfl⟩,fun b ⟨i,g,h1,h2,h3⟩=>?_⟩
  by_cases ei:i=id
  .subst ei
   rw [upd_same] at h2; cases h2; cases h3; exact .inl (Nat.le_refl _)
  .rw [upd_ne _ _ ei] at h2
   exact .inr ⟨i,g,by rw [hl ei] at h1; exact h1,h2,h3⟩
 refine ⟨⟨fun i y hi=>?_,fun i hi=>?_,fun i j g g' b hi hj h1 h2 h3 h4=>?_,fun i g b hi h1 h2=>?_,h.mem.chg (h.mem.alloc _) hC⟩,hC⟩
 .by_cases e:i=id
  .subst e
   rw [hsame] at hi; cases hi
   exact ⟨w.heap.size,upd_same _ _ _,heap_alloc_new w _,h.mem.fresh (Nat.le_refl _)⟩
  .rw [hl e] at hi
   exact (h.ob i y hi).keep hγ (MLe.refl M) fun g b h1 h2=>⟨heap_push_lt (h.lt i g b (by rw [hi]; simp) h1 h2),rfl⟩
 .by_cases e:i=id
  .subst e; rw [hsame] at hi; cases hi
  .rw [hl e] at hi; rw [upd_ne _ _ e]; exact h.us i hi
 .by_cases ei:i=id
  .subst ei
   rw [upd_same] at h1; cases h1; cases h3
   by_cases ej:j=i
   .exact ej.symm
   .rw [upd_ne _ _ ej] at h2
    have:=h.lt j g' _ (by rw [hl ej] at hj; exact hj) h2 h4
    omega
  .rw [upd_ne _ _ ei] at h1
   by_cases ej:j=id
   .subst ej
    rw [upd_same] at h2; cases h2; cases h4
    have:=h.lt i g _ (by rw [hl ei] at hi; exact hi) h1 h3
    omega
   .rw [upd_ne _ _ ej] at h2
    exact h.sep i j g g' b (by rw [hl ei] at hi; exact hi) (by rw [hl ej] at hj; exact hj) h1 h2 h3 h4
 .by_cases ei:i=id
  .subst ei
   rw [upd_same] at h1; cases h1; cases h2; simp
  .rw [upd_ne _ _ ei] at h1
   have:=h.lt i g b (by rw [hl ei] at hi; exact hi) h1 h2
   simp; omega
theorem Hold.setraw (h:Hold γ M w o) {id b:Nat} {x y:Obj} (hid:lookO id o=some (.raw x)) (hb:γ id=some (.cell b)) (hy:lookO id o'=some (.raw y)) (hne:∀ i,i≠id->lookO i o'=lookO i o):
 Hold γ M (w.putObj b y) o'/\Chg γ o M w γ o' M (w.putObj b y):=by
 obtain ⟨b',hg',hx,hn⟩:=h.ob id _ hid
 rw [hb] at hg'; cases hg'
 have hlt:b < w.heap.size:=h.lt id _ b (by rw [hid]; simp) hb rfl
 have hnn:∀ i,lookO i o'≠none->lookO i o≠none:=by
  intro i hi
  by_cases e:i=id
  .subst e; rw [hid]; simp
  .rw [<-hne i e]; exact hi
 have hC:Chg γ o M w γ o' M (w.putObj b y):=by
  refine ⟨by simp,rfl,rfl,rfl,MLe.refl M,fun c hc hh=>⟨World.putObj_heap_other ?_,rfl⟩,fun c ⟨i,g,h1,h2,h3⟩=>.inr ⟨i,g,hnn i h1,h2,h3⟩⟩
  rintro rfl
  exact hh ⟨id,_,by rw [hid]; simp,hb,rfl⟩
 refine ⟨⟨fun i z hi=>?_,fun i hi=>?_,fun i j g g' c hi hj h1 h2 h3 h4=>h.sep i j g g' c (hnn i hi) (hnn j hj) h1 h2 h3 h4,fun i g c hi h1 h2=>?_,h.mem.chg (h.mem.put hn) hC⟩,hC⟩
 .by_cases e:i=id
  .subst e
   rw [hy] at hi; cases hi
   exact ⟨b,hb,World.putObj_heap_same hlt,hn⟩
  .rw [hne i e] at hi
   refine (h.ob i z hi).keep (GLe.refl γ) (MLe.refl M) fun g c h1 h2=>⟨World.putObj_heap_other ?_,rfl⟩
   rintro rfl
   exact e (h.sep i id g _ c (by rw [hi]; simp) (by rw [hid]; simp) h1 hb h2 rfl)
 .by_cases e:i=id
  .subst e; rw [hy] at hi; cases hi
  .rw [hne i e] at hi; exact h.us i hi
 .have:=h.lt i g c (hnn i hi) h1 h2
  rw [World.putObj_size]; exact this
def cutLO (fx:List Nat) (c:Cut) (s:S):Option (List (Nat×AV)×List (Nat×AObj)):=
 match resolveO s [] (realO c.own) with
 | some rn=>match cutOk fx rn with
  | true=>match cutSlots s rn (fwOf rn) (realO c.own) c.slots with
   | some l=>match buildO s rn (fwOf rn) (realO c.own) c.own rn (realO c.own) with
    | some o=>some (l,o)
    | none=>none
   | none=>none
  | false=>none
 | none=>none
theorem cutLO_cutS {fx:List Nat} {c:Cut} {s:S} {l:List (Nat×AV)} {o:List (Nat×AObj)} (h:cutLO fx c s=some (l,o)):cutS fx c s=some (mkS l o):=by
 unfold cutLO at h
 unfold cutS
 split at h
 .rename_i rn hrn
  rw [hrn]; dsimp only
  split at h
  .rename_i hok
   rw [hok]; dsimp only
   split at h
   .rename_i l' hl
    rw [hl]; dsimp only
    split at h
    .rename_i o' ho
     rw [ho]; cases h; rfl
    .cases h
   .cases h
  .cases h
 .cases h
theorem cutSlots_keys {s:S} {rn fw:Rn} {own:List Own}:∀ {ts:List Nat} {l:List (Nat×AV)},cutSlots s rn fw own ts=some l->l.map (·.1)=ts
 | [],l,h=>by cases h; rfl
 | t::r,l,h=>by
  simp only [cutSlots] at h
  split at h
  .split at h
   .rename_i l' hl
    cases h
    simp [cutSlots_keys hl]
   .cases h
  .cases h
theorem cutLO_keys {fx:List Nat} {c:Cut} {s:S} {l:List (Nat×AV)} {o:List (Nat×AObj)} (h:cutLO fx c s=some (l,o)):l.map (·.1)=c.slots:=by
 unfold cutLO at h
 split at h
 .split at h
  .split at h
   .rename_i l' hl
    split at h
    .cases h; exact cutSlots_keys hl
    .cases h
   .cases h
  .cases h
 .cases h
def tagOf:Exit->AV
 | .normal=>.p (.int .i64 (-1))
 | .ret=>.p (.int .i64 (-2))
 | .exit i=>.p (.int .i64 (i:Int))
 | _=>.any
def kTag (fx:List Nat) (c:Cut):K:=fun e s=>
 match cutLO fx c s with
 | some (l,o)=>some (.tup (tagOf e::l.map (·.2)),o)
 | none=>none
theorem tagOf_normal {e:Exit} (h:tagOf e=.p (.int .i64 (-1))):e=.normal:=by
 cases e with
 | normal=>rfl
 | exit i=>simp [tagOf] at h
 | _=>simp [tagOf] at h
theorem tagOf_exit {e:Exit} {i:Nat} (h:tagOf e=.p (.int .i64 (i:Int))):e=.exit i:=by
 cases e with
 | normal=>simp [tagOf] at h
 | ret=>simp [tagOf] at h
 | exit j => simp [tagOf] at h; have : j = i := by omega
             rw [this]
 | _=>simp [tagOf] at h
theorem zip_keys {α β:Type}:∀ {l:List (α×β)},List.zip (l.map (·.1)) (l.map (·.2))=l
 | []=>rfl
 | p::r=>by rw [List.map_cons,List.map_cons,List.zip_cons_cons,zip_keys]
theorem kTag_get {nt:Nat} {fx:List Nat} (hC:CtxOk C nt fx) {c:Cut} {e:Exit} {s:S} {t:AV} {xs:List AV} {o:List (Nat×AObj)} (h:kTag fx c e s=some (.tup (t::xs),o)):tagOf e=t/\Sub C s (mkS (List.zip c.slots xs) o):=by
 unfold kTag at h
 split at h
 .rename_i l o' hl
  cases h
  rw [<-cutLO_keys hl,zip_keys]
  exact ⟨rfl,cutS_sub hC (cutLO_cutS hl)⟩
 .cases h
def agNone:List Nat->Code->S->K->Option Ans:=fun _ _ _ _=>none
theorem piece {G:Cfg} (hG:CfgOk G P C) {c:Code} {s:S} {k:K} {r:Ans} (h:runC G agNone [] c s k=some r):T P C c s (fun e s'=>k e s'=some r):=
 runC_sound (again:=agNone) hG (fun _ _ _ _ _ h _=>by cases h) c [] s k _ h (fun _ _ h=>h)
noncomputable def kNext (G:Cfg) (c:Code) (k:K):K:=fun e s=>
 match e with
 | .normal=>runC G agNone [] c s k
 | e=>k e s
theorem wpIn_piece {G:Cfg} (hG:CfgOk G P C) {c:Code} {s:S} {k:K} {r:Ans} {R:Exit->Act->World->Prop} (h:runC G agNone [] c s k=some r) (hs:St C s a w) (hk:∀ e s' a' w',k e s'=some r->St C s' a' w'->R e a' w'):c.wpIn (FW C.rd) 0 P R a w:=
 wpIn_mono (piece hG h a w hs) fun e a' w' ⟨s',h1,h2⟩=>hk e s' a' w' h1 h2
theorem FnP.weak {f:FuncId} {args:List AV} {r r':AV} (h:FnP P f args r) (k:∀ M v,ARel γ0 M r v->ARel γ0 M r' v):FnP P f args r':=fun M w vs hM hvs=>
 (h M w vs hM hvs).mono fun e w' ⟨v,M',he,h1,h2,h3,h4,h5⟩=>⟨v,M',he,h1,h2,h3,k M' v h4,h5⟩
theorem ARel.nil_list {γ:Nat->Option G} {M:Mem} {v:Value} {k:Nat} {R:Rows} (h0:R.n=0) (h:ARel γ M (.p .nil) v):ARel γ M (.p (.list k R)) v:=by
 cases h with | p _ _ h=>cases h; exact .p _ _ (.listNil k R h0)
theorem ARel.tup_head {γ:Nat->Option G} {M:Mem} {v:Value} {x y:AV} {r:List AV} (k:∀ v,ARel γ M x v->ARel γ M y v) (h:ARel γ M (.tup (x::r)) v):ARel γ M (.tup (y::r)) v:=by
 obtain ⟨vs,rfl,hs,hr⟩:=h.tup_inv
 refine .tup _ _ (by simpa using hs) fun i hi=>?_
 cases i with
 | zero=>exact k _ (hr 0 (by simp))
 | succ i=>exact hr (i+1) (by simpa using hi)
end Go.Am
namespace Go.Proofs.YtampckbjinodgaaGreatDoor
open Go Go.Am
set_option linter.unusedVariables false
def inName (c:UInt8):Bool:=decide (33<=c.toNat)&&decide (c.toNat<=126)
def oneF (s:List UInt8):(List UInt8×List UInt8)×Bool:=(((cutS s 58).1,trimBl (cutS s 58).2.1),((cutS s 58).2.2&&(cutS s 58).1.all inName)&&((cutS s 58).1 != []))
noncomputable def cfone:Code:=bodyOf Tryz.f57
noncomputable def Gfone:Cfg:=⟨Tryz.prog,mkEnv [(69,sp_cut),(99,sp_trim2)],mkEnvR [],42,[],[([0,1,0,1,1],⟨[2,4,5,6,15,16],[⟨.slot 2,2,.cells []⟩]⟩),([1,1,1,0,0,1,0,1,1],⟨[2,4,5,6,15,16],[⟨.slot 2,2,.cells []⟩]⟩)],[]⟩
noncomputable def Bfone_1 (F f1:Nat) (vs1 vs2:List UInt8) (vc3:Bool) (vi4 vi5:Int):Option Ans:=runR Gfone cfone (kP Tryz.prog Tryz.f57.results.toList) F [] [1,1,0,1,0] f1 [(2,.ref 2 0),(4,.p (.str vs1)),(5,.p (.str vs2)),(6,.p (.bool vc3)),(15,.p (.int .i64 vi4)),(16,.p (.int .i64 vi5))] [(2,.cells [.p (.str ([]:List UInt8)),.p (.str ([]:List UInt8))])]
noncomputable def Bfone_2 (F f1:Nat) (vs1 vs2:List UInt8) (vc6:Bool) (vi4 vi5:Int):Option Ans:=runB Gfone cfone (kP Tryz.prog Tryz.f57.results.toList) F [f1] [1,1,0,1,0,0,1,1,1] [(2,.ref 2 0),(4,.p (.str vs1)),(5,.p (.str vs2)),(6,.p (.bool vc6)),(15,.p (.int .i64 vi4)),(16,.p (.int .i64 vi5))] [(2,.cells [.p (.str ([]:List UInt8)),.p (.str ([]:List UInt8))])]
noncomputable def Ffone (F:Nat) (s:List UInt8):Option Ans:=runF Gfone Tryz.f57 F [.p (.str s)]
theorem Bfone_1_eq (F f1:Nat) (vs1 vs2:List UInt8) (vc3:Bool) (vi4 vi5:Int):Bfone_1 F (f1+1) vs1 vs2 vc3 vi4 vi5=cond (decide (vi5 < vi4)) (need (vc3=true->0<=vi5/\vi5 < (vs1.length:Int)) (need ((vc3&&(decide (((vs1.getD (vi5).toNat 0).toNat:Int)>=(33:Int))))=true->0<=vi5/\vi5 < (vs1.length:Int)) (Bfone_2 F f1 vs1 vs2 ((vc3&&(decide (((vs1.getD (vi5).toNat 0).toNat:Int)>=(33:Int))))&&(decide (((vs1.getD (vi5).toNat 0).toNat:Int)<=(126:Int)))) vi4 vi5))) (need (vs2.length<=1000000) (some (.tup [.agg [.p (.str vs1),.p (.str (trimBl vs2))],.p (.bool (vc3&&(vs1 != ([]:List UInt8))))],[]))):=
 Eq.trans (show Bfone_1 F (f1+1) vs1 vs2 vc3 vi4 vi5=cond (decide (vi5 < vi4)) (need (vc3=true->vc3=true) (need (vc3=true->vc3=true) (need (vc3=true->0<=vi5/\vi5 < (vs1.length:Int)) (need (vc3=true->vc3=true) (need (vc3=true->vc3=true) (need ((vc3&&(decide (((vs1.getD (vi5).toNat 0).toNat:Int)>=(33:Int))))=true->(vc3&&(decide (((vs1.getD (vi5).toNat 0).toNat:Int)>=(33:Int))))=true) (need ((vc3&&(decide (((vs1.getD (vi5).toNat 0).toNat:Int)>=(33:Int))))=true->(vc3&&(decide (((vs1.getD (vi5).toNat 0).toNat:Int)>=(33:Int))))=true) (need ((vc3&&(decide (((vs1.getD (vi5).toNat 0).toNat:Int)>=(33:Int))))=true->0<=vi5/\vi5 < (vs1.length:Int)) (need ((vc3&&(decide (((vs1.getD (vi5).toNat 0).toNat:Int)>=(33:Int))))=true->(vc3&&(decide (((vs1.getD (vi5).toNat 0).toNat:Int)>=(33:Int))))=true) (need ((vc3&&(decide (((vs1.getD (vi5).toNat 0).toNat:Int)>=(33:Int))))=true->(vc3&&(decide (((vs1.getD (vi5).toNat 0).toNat:Int)>=(33:Int))))=true) (Bfone_2 F f1 vs1 vs2 ((vc3&&(decide (((vs1.getD (vi5).toNat 0).toNat:Int)>=(33:Int))))&&(decide (((vs1.getD (vi5).toNat 0).toNat:Int)<=(126:Int)))) vi4 vi5))))))))))) (need (vs2.length<=1000000) (need (vc3=true->vc3=true) (need (vc3=true->vc3=true) (some (.tup [.agg [.p (.str vs1),.p (.str (trimBl vs2))],.p (.bool (vc3&&(vs1 != ([]:List UInt8))))],[]))))) by kernel_rfl) (cond_congr (need_strike (show vc3=true->vc3=true from (fun q0=>q0)) (need_strike (show vc3=true->vc3=true from (fun q0=>q0)) (need_congr (need_strike (show vc3=true->vc3=true from (fun q0=>q0)) (need_strike (show vc3=true->vc3=true from (fun q0=>q0)) (need_strike (show (vc3&&(decide (((vs1.getD (vi5).toNat 0).toNat:Int)>=(33:Int))))=true->(vc3&&(decide (((vs1.getD (vi5).toNat 0).toNat:Int)>=(33:Int))))=true from (fun q0=>q0)) (need_strike (show (vc3&&(decide (((vs1.getD (vi5).toNat 0).toNat:Int)>=(33:Int))))=true->(vc3&&(decide (((vs1.getD (vi5).toNat 0).toNat:Int)>=(33:Int))))=true from (fun q0=>q0)) (need_congr (need_strike (show (vc3&&(decide (((vs1.getD (vi5).toNat 0).toNat:Int)>=(33:Int))))=true->(vc3&&(decide (((vs1.getD (vi5).toNat 0).toNat:Int)>=(33:Int))))=true from (fun q0=>q0)) (need_strike (show (vc3&&(decide (((vs1.getD (vi5).toNat 0).toNat:Int)>=(33:Int))))=true->(vc3&&(decide (((vs1.getD (vi5).toNat 0).toNat:Int)>=(33:Int))))=true from (fun q0=>q0)) (rfl))))))))))) (need_congr (need_strike (show vc3=true->vc3=true from (fun q0=>q0)) (need_strike (show vc3=true->vc3=true from (fun q0=>q0)) (rfl)))))
theorem Bfone_2_eq (F f1:Nat) (vs1 vs2:List UInt8) (vc6:Bool) (vi4 vi5:Int):Bfone_2 F f1 vs1 vs2 vc6 vi4 vi5=need (i64ok (vi5+(1:Int))) (Bfone_1 F f1 vs1 vs2 vc6 vi4 (vi5+(1:Int))):=by kernel_rfl
theorem Ffone_eq (F:Nat) (s:List UInt8):Ffone F s=need (s.length<=1000000) (Bfone_1 F F ((cutS s 58).1) ((cutS s 58).2.1) ((cutS s 58).2.2) (((cutS s 58).1).length:Int) (0:Int)):=by kernel_rfl
theorem fn_fone (F:Nat) (s:List UInt8) (r:AV) (h:(∃ M vs,ARels γ0 M [.p (.str s)] vs)->Ffone F s=some (r,[])):FnP Tryz.prog 57 [.p (.str s)] r:=
 FnP_run Gfone F rfl (EnvOk_mk (l:=[(69,sp_cut),(99,sp_trim2)]) ⟨ok_cut.any,ok_trim2.any,trivial⟩) (EnvROk_mk (l:=[]) trivial) (Checked.mixed Tryz.checked) (fn:=Tryz.f57) (by kernel_rfl) (by kernel_rfl) rfl h
theorem inName_dec (c:UInt8) (m:Bool):((m&&(decide ((c.toNat:Int)>=(33:Int))))&&(decide ((c.toNat:Int)<=(126:Int))))=(m&&inName c):=by
 unfold inName
 rw [Bool.and_assoc,show decide ((c.toNat:Int)>=(33:Int))=decide (33<=c.toNat) from decide_eq_decide.2 (by omega),show decide ((c.toNat:Int)<=(126:Int))=decide (c.toNat<=126) from decide_eq_decide.2 (by omega)]
theorem Bfone_spec (F:Nat) (a b:List UInt8) (ha:a.length<=1000000) (hb:b.length<=1000000):∀ (r:List UInt8) (f i:Nat) (m:Bool),a.drop i=r->r.length < f->i<=a.length->
 Bfone_1 F f a b m (a.length:Int) (i:Int)=some (.tup [.agg [.p (.str a),.p (.str (trimBl b))],.p (.bool ((m&&r.all inName)&&(a != [])))],[]):=by
 intro r
 induction r with
 | nil=>
  intro f i m hd hf hi
  have:i=a.length:=by have:=congrArg List.length hd; simp at this; omega
  cases f with
  | zero=>omega
  | succ f=>
   rw [Bfone_1_eq]
   refine cond_f (by simp; omega) (need_mk hb ?_)
   simp
 | cons c r ih=>
  intro f i m hd hf hi
  obtain ⟨h1,h2,h3⟩:=drop_cons hd
  cases f with
  | zero=>omega
  | succ f=>
   rw [Bfone_1_eq]
   refine cond_t (by simp; omega) (need_mk (fun _=>⟨by omega,by omega⟩) (need_mk (fun _=>⟨by omega,by omega⟩) ?_))
   rw [Int.toNat_natCast,h1,inName_dec,Bfone_2_eq]
   refine need_mk (by unfold i64ok; omega) ?_
   rw [show (i:Int)+1=((i+1:Nat):Int) by omega,ih f (i+1) _ h2 (by simp at hf; omega) (by omega),List.all_cons,Bool.and_assoc m]
theorem fone_eq (s:List UInt8) (hs:s.length<=1000000):Ffone (s.length+1) s=some (.tup [.agg [.p (.str (oneF s).1.1),.p (.str (oneF s).1.2)],.p (.bool (oneF s).2)],[]):=by
 have hl:=cutS_len s 58
 rw [Ffone_eq]
 refine need_mk hs ?_
 have:=Bfone_spec (s.length+1) (cutS s 58).1 (cutS s 58).2.1 (by omega) (by omega) (cutS s 58).1 (s.length+1) 0 (cutS s 58).2.2 rfl (by omega) (by omega)
 exact this
def sp_fone:List AV->Option (AV×Option Prop)
 | [.p (.str s)]=>some (.tup [.agg [.p (.str ((oneF s).1.1)),.p (.str ((oneF s).1.2))],.p (.bool ((oneF s).2))],some (s.length<=1000000))
 | _=>none
theorem ok_fone:SpecOk Tryz.prog 57 sp_fone:=by
 intro zs r ok he hok
 unfold sp_fone at he
 split at he
 .cases he; exact ⟨by kernel_rfl,fn_fone (_) _ _ fun hx=>fone_eq _ hok⟩
 .cases he
def lnF:List UInt8->Nat->List UInt8->List (Nat×List UInt8×Nat)
 | acc,a,[]=>if acc=[] then [] else [(a,acc,a+acc.length)]
 | acc,a,c::r=>if c=10 then (a,trimSuf acc [13],a+acc.length+1)::lnF [] (a+acc.length+1) r else lnF (acc++[c]) a r
theorem lnF_nl {q:List UInt8}:∀ {p:List UInt8} (acc:List UInt8) (a:Nat),(∀ x ∈ p,x≠10)->lnF acc a (p++10::q)=(a,trimSuf (acc++p) [13],a+(acc++p).length+1)::lnF [] (a+(acc++p).length+1) q
 | [],acc,a,_=>by rw [List.nil_append,lnF,if_pos rfl,List.append_nil]
 | c::p,acc,a,h=>by rw [List.cons_append,lnF,if_neg (h c (by simp)),lnF_nl (acc++[c]) a (fun x hx=>h x (List.mem_cons_of_mem _ hx)),List.append_assoc]; rfl
theorem lnF_end:∀ {p:List UInt8} (acc:List UInt8) (a:Nat),(∀ x ∈ p,x≠10)->lnF acc a p=if acc++p=[] then [] else [(a,acc++p,a+(acc++p).length)]
 | [],acc,a,_=>by rw [lnF,List.append_nil]
 | c::p,acc,a,h=>by rw [lnF,if_neg (h c (by simp)),lnF_end (acc++[c]) a (fun x hx=>h x (List.mem_cons_of_mem _ hx)),List.append_assoc]; rfl
theorem trimSuf_len (s p:List UInt8):(trimSuf s p).length<=s.length:=by unfold trimSuf; split <;> simp
def linesN (s:List UInt8) (a b:Nat):List (Nat×List UInt8×Nat):=lnF [] a ((s.take b).drop a)
def isBlank1:List UInt8->Bool
 | c::_=>c==32||c==9
 | []=>false
def gathS:List (Nat×List UInt8×Nat)->Int->List (List UInt8)->List (List UInt8)×Int
 | [],body,g=>(g,body)
 | (_,t,nx)::r,body,g=>if t=[] then (g,(nx:Int)) else if g≠[]/\isBlank1 t=true then gathS r body (g.set (g.length - 1) (g.getD (g.length - 1) []++t)) else gathS r body (g++[t])
def fieldsS (g:List (List UInt8)):List (List UInt8×List UInt8):=g.filterMap fun t=>if (oneF t).2=true then some (oneF t).1 else none
def splitS (s:List UInt8) (a b:Int):List (List UInt8×List UInt8)×Int:=if a < 0\/b > s.length\/a > b then ([],a) else (fieldsS (gathS (linesN s a.toNat b.toNat) b []).1,(gathS (linesN s a.toNat b.toNat) b []).2)
theorem oneF_blank {t:List UInt8} (h:isBlank1 t=true):(oneF t).2=false:=by
 cases t with
 | nil=>cases h
 | cons c r=>
  have hc:c=32\/c=9:=by simpa [isBlank1] using h
  unfold oneF
  rcases cut_split 58 (c::r) with ⟨p,q,e,_,he⟩ | ⟨_,he⟩
  .rw [he]
   dsimp only
   cases p with
   | nil=>simp at e; rcases hc with h | h <;> rw [h] at e <;> exact absurd e.1 (by decide)
   | cons x p=>
    have:c=x:=(List.cons.inj e).1
    subst this
    rcases hc with h | h <;> subst h <;> simp [inName]
  .rw [he]; rfl
end Go.Proofs.YtampckbjinodgaaGreatDoor
namespace Go.Proofs.YtampckbjinodgaaGreatDoor
open Go Go.Am
set_option linter.unusedVariables false
noncomputable def Glines:Cfg:=⟨Tryz.prog,mkEnv [],mkEnvR [],8,[],[],[]⟩
noncomputable def Flines (F:Nat) (s:List UInt8) (a b:Int):Option Ans:=runFR Glines Tryz.f56 ⟨[6],[⟨.comp 6 0,506000,.cells []⟩,⟨.comp 6 1,506001,.cells []⟩,⟨.comp 6 2,506002,.cells []⟩]⟩ [506000,506001,506002] F [.p (.str s),.p (.int .i64 a),.p (.int .i64 b)] []
theorem Flines_eq (F:Nat) (s:List UInt8) (a b:Int):Flines F s a b=some (.clo (.func 97) [] [.ref 506000 0,.ref 506001 0,.ref 506002 0],[(506000,.cells [.p (.int .i64 a)]),(506001,.cells [.p (.int .i64 b)]),(506002,.cells [.p (.str s)])]):=by kernel_rfl
theorem fn_lines (F:Nat) (s:List UInt8) (a b:Int) (r:AV) (os:List (Nat×AObj)) (h:(∃ γ M w vs,ARels γ M [.p (.str s),.p (.int .i64 a),.p (.int .i64 b)] vs/\Objs γ M w (fun i=>lookO i []) (fun b=>b < w.heap.size))->Flines F s a b=some (r,os)):FnR Tryz.prog 56 [.p (.str s),.p (.int .i64 a),.p (.int .i64 b)] [] [] r os:=
 FnR_run Glines ⟨[6],[⟨.comp 6 0,506000,.cells []⟩,⟨.comp 6 1,506001,.cells []⟩,⟨.comp 6 2,506002,.cells []⟩]⟩ [506000,506001,506002] F rfl (EnvOk_mk (l:=[]) trivial) (EnvROk_mk (l:=[]) trivial) (Checked.mixed Tryz.checked) (fn:=Tryz.f56) (by kernel_rfl) (by kernel_rfl) rfl h
def sp_lines:RSpec:=⟨[true,true,true],fun args ib=>match args,ib with
 | [.p (.str s),.p (.int .i64 a),.p (.int .i64 b)],[]=>some (([],.clo (.func 97) [] [.ref 506000 0,.ref 506001 0,.ref 506002 0]),([(506000,.cells [.p (.int .i64 a)]),(506001,.cells [.p (.int .i64 b)]),(506002,.cells [.p (.str s)])],none))
 | _,_=>none⟩
theorem ok_lines:SpecROk Tryz.prog 56 sp_lines:=by
 intro args ib kept r outs ok he hok
 simp only [sp_lines] at he
 split at he
 .cases he
  exact ⟨by kernel_rfl,fn_lines 0 _ _ _ _ _ fun _=>Flines_eq 0 _ _ _⟩
 .cases he
abbrev keepI:List Nat:=[7,8,1001,1002,1003,1004,1005]
def oI (body:Int) (g:List (List UInt8)) (i b:Int) (s:List UInt8) (rec:Loop):List (Nat×AObj):=[(1005,.raw (.loop rec)),(1004,.raw (.deferred (some []))),(7,.cells [.p (.int .i64 body)]),(8,.cells [.arr 81]),(81,.larr 9 true 1 (.dat .str g)),(1001,.cells [.p (.int .i64 i)]),(1002,.cells [.p (.int .i64 b)]),(1003,.cells [.p (.str s)])]
noncomputable def cS:Code:=bodyOf Tryz.f34
noncomputable def cI:Code:=bodyOf Tryz.f97
def cut0S:Cut:=⟨[6,7,8,34],[⟨.slot 7,7,.cells []⟩,⟨.slot 8,8,.cells []⟩,⟨.cell 8 0,81,(.larr 9 true 1 (.dat .str ([]:List (List UInt8))))⟩,⟨.comp 34 0,1001,.cells []⟩,⟨.comp 34 1,1002,.cells []⟩,⟨.comp 34 2,1003,.cells []⟩]⟩
noncomputable def kPre:K:=fun e s=>match e with | .normal=>kTag [] cut0S .normal s | .ret=>kP Tryz.prog Tryz.f34.results.toList .ret s | _=>none
noncomputable def GS0:Cfg:=⟨Tryz.prog,mkEnv [],mkEnvR [(56,sp_lines)],98,[],[],[([],[3])]⟩
theorem GS0_env:EnvOk Tryz.prog GS0.env:=EnvOk_mk (l:=[]) trivial
theorem GS0_envR:EnvROk Tryz.prog GS0.envR:=EnvROk_mk (l:=[(56,sp_lines)]) ⟨ok_lines,trivial⟩
theorem pre_eq (s:List UInt8) (a b:Int):runC GS0 agNone [] (at_ cS [0]) (mkS [(0,.p (.str s)),(1,.p (.int .i64 a)),(2,.p (.int .i64 b))] []) (kNext GS0 (at_ cS [1,0]) (kNext GS0 (at_ cS [1,1,0]) (kNext GS0 (at_ cS [1,1,1,0]) (kNext GS0 (at_ cS [1,1,1,1,0,0]) kPre))))=cond (((decide (a < (0:Int)))||(decide (b > (s.length:Int))))||(decide (a > b))) (some (.tup [.p .nil,.p (.int .i64 a)],[])) (some (.tup [.p (.int .i64 (-1)),.p .nil,.ref 7 0,.ref 8 0,.clo (.func 97) [] [.ref 1001 0,.ref 1002 0,.ref 1003 0]],[(7,.cells [.p (.int .i64 b)]),(8,.cells [.arr 81]),(81,.larr 9 true 1 (.dat .str ([]:List (List UInt8)))),(1001,.cells [.p (.int .i64 a)]),(1002,.cells [.p (.int .i64 b)]),(1003,.cells [.p (.str s)])])):=
 Eq.trans (show runC GS0 agNone [] (at_ cS [0]) (mkS [(0,.p (.str s)),(1,.p (.int .i64 a)),(2,.p (.int .i64 b))] []) (kNext GS0 (at_ cS [1,0]) (kNext GS0 (at_ cS [1,1,0]) (kNext GS0 (at_ cS [1,1,1,0]) (kNext GS0 (at_ cS [1,1,1,1,0,0]) kPre))))=need ((!(decide (a < (0:Int))))=true->(!(decide (a < (0:Int))))=true) (need ((!(decide (a < (0:Int))))=true->(!(decide (a < (0:Int))))=true) (need ((!(decide (a < (0:Int))))=true->(!(decide (a < (0:Int))))=true) (need ((decide (a < (0:Int)))=false->(!(decide (a < (0:Int))))=true) (need ((!((decide (a < (0:Int)))||(decide (b > (s.length:Int)))))=true->(!((decide (a < (0:Int)))||(decide (b > (s.length:Int)))))=true) (need ((!((decide (a < (0:Int)))||(decide (b > (s.length:Int)))))=true->(!((decide (a < (0:Int)))||(decide (b > (s.length:Int)))))=true) (need (((decide (a < (0:Int)))||(decide (b > (s.length:Int))))=false->(!((decide (a < (0:Int)))||(decide (b > (s.length:Int)))))=true) (cond (((decide (a < (0:Int)))||(decide (b > (s.length:Int))))||(decide (a > b))) (some (.tup [.p .nil,.p (.int .i64 a)],[])) (some (.tup [.p (.int .i64 (-1)),.p .nil,.ref 7 0,.ref 8 0,.clo (.func 97) [] [.ref 1001 0,.ref 1002 0,.ref 1003 0]],[(7,.cells [.p (.int .i64 b)]),(8,.cells [.arr 81]),(81,.larr 9 true 1 (.dat .str ([]:List (List UInt8)))),(1001,.cells [.p (.int .i64 a)]),(1002,.cells [.p (.int .i64 b)]),(1003,.cells [.p (.str s)])]))))))))) by kernel_rfl) (need_strike (show (!(decide (a < (0:Int))))=true->(!(decide (a < (0:Int))))=true from (fun q0=>q0)) (need_strike (show (!(decide (a < (0:Int))))=true->(!(decide (a < (0:Int))))=true from (fun q0=>q0)) (need_strike (show (!(decide (a < (0:Int))))=true->(!(decide (a < (0:Int))))=true from (fun q0=>q0)) (need_strike (show (decide (a < (0:Int)))=false->(!(decide (a < (0:Int))))=true from (fun q0=>(not_mk q0))) (need_strike (show (!((decide (a < (0:Int)))||(decide (b > (s.length:Int)))))=true->(!((decide (a < (0:Int)))||(decide (b > (s.length:Int)))))=true from (fun q0=>q0)) (need_strike (show (!((decide (a < (0:Int)))||(decide (b > (s.length:Int)))))=true->(!((decide (a < (0:Int)))||(decide (b > (s.length:Int)))))=true from (fun q0=>q0)) (need_strike (show ((decide (a < (0:Int)))||(decide (b > (s.length:Int))))=false->(!((decide (a < (0:Int)))||(decide (b > (s.length:Int)))))=true from (fun q0=>(not_mk q0))) (rfl))))))))
def cutI:Cut:=⟨[0,1,2,3,5,6],[⟨.fix 1005,1005,.cells []⟩,⟨.fix 1004,1004,.cells []⟩,⟨.fix 7,7,.cells []⟩,⟨.fix 8,8,.cells []⟩,⟨.cell 8 0,81,.cells []⟩,⟨.fix 1001,1001,.cells []⟩,⟨.fix 1002,1002,.cells []⟩,⟨.fix 1003,1003,.cells []⟩]⟩
noncomputable def GI:Cfg:=⟨Tryz.prog,mkEnv [(74,sp_ixb),(98,sp_ts)],mkEnvR [],34,keepI,[],[]⟩
theorem GI_env:EnvOk Tryz.prog GI.env:=EnvOk_mk (l:=[(74,sp_ixb),(98,sp_ts)]) ⟨ok_ixb.any,ok_ts.any,trivial⟩
theorem GI_envR:EnvROk Tryz.prog GI.envR:=EnvROk_mk (l:=[]) trivial
theorem it_eq (l:Nat) (s:List UInt8) (body i b:Int) (g:List (List UInt8)) (rec:Loop):runC GI agNone [] (at_ cI [0,0,0]) (mkS [(0,.clo (.yield l) [] []),(1,.ref 1001 0),(2,.ref 1002 0),(3,.ref 1003 0)] (oI body g i b s rec)) (kNext GI (at_ cI [0,0,1,0,0]) (kNext GI (at_ cI [0,0,1,0,1,0]) (kTag keepI cutI)))=cond (decide (i < b)) (need (0<=i/\i<=b/\b<=(s.length:Int)) (cond (decide ((ixS ((s.take (b).toNat).drop (i).toNat) (10:Int))>=(0:Int))) (need (0<=(ixS ((s.take (b).toNat).drop (i).toNat) (10:Int))/\(ixS ((s.take (b).toNat).drop (i).toNat) (10:Int))<=(((s.take (b).toNat).drop (i).toNat).length:Int)) (need ((((s.take (b).toNat).drop (i).toNat).take (ixS ((s.take (b).toNat).drop (i).toNat) (10:Int)).toNat).length<=1000000) (need (i64ok (i+(ixS ((s.take (b).toNat).drop (i).toNat) (10:Int)))) (need (i64ok ((i+(ixS ((s.take (b).toNat).drop (i).toNat) (10:Int)))+(1:Int))) (some (.tup [.p (.int .i64 (-1)),.clo (.yield l) [] [],.ref 1001 0,.ref 1002 0,.ref 1003 0,.p (.str (trimSuf (((s.take (b).toNat).drop (i).toNat).take (ixS ((s.take (b).toNat).drop (i).toNat) (10:Int)).toNat) ([13]:List UInt8))),.p (.int .i64 ((i+(ixS ((s.take (b).toNat).drop (i).toNat) (10:Int)))+(1:Int)))],(oI body g i b s rec))))))) (some (.tup [.p (.int .i64 (-1)),.clo (.yield l) [] [],.ref 1001 0,.ref 1002 0,.ref 1003 0,.p (.str ((s.take (b).toNat).drop (i).toNat)),.p (.int .i64 b)],(oI body g i b s rec))))) (some (.tup [.p (.int .i64 (0)),.clo (.yield l) [] [],.ref 1001 0,.ref 1002 0,.ref 1003 0,.any,.any],(oI body g i b s rec))):=by kernel_rfl
def cutI2:Cut:=⟨[0,1,2,3],[⟨.fix 1005,1005,.cells []⟩,⟨.fix 1004,1004,.cells []⟩,⟨.fix 7,7,.cells []⟩,⟨.fix 8,8,.cells []⟩,⟨.cell 8 0,81,.cells []⟩,⟨.fix 1001,1001,.cells []⟩,⟨.fix 1002,1002,.cells []⟩,⟨.fix 1003,1003,.cells []⟩]⟩
theorem it2_eq (l:Nat) (s:List UInt8) (body i b:Int) (g:List (List UInt8)) (nx:Int) (c:Bool) (rec:Loop):runC GI agNone [] (at_ cI [0,0,1,0,1,1,0,1]) (mkS [(0,.clo (.yield l) [] []),(1,.ref 1001 0),(2,.ref 1002 0),(3,.ref 1003 0),(6,.p (.int .i64 nx)),(32,.p (.bool c))] (oI body g i b s rec)) (kNext GI (at_ cI [0,0,1,0,1,1,1]) (kTag keepI cutI2))=cond (c) (some (.tup [.p (.int .i64 (-2)),.clo (.yield l) [] [],.ref 1001 0,.ref 1002 0,.ref 1003 0],(oI body g i b s rec))) (some (.tup [.p (.int .i64 (-1)),.clo (.yield l) [] [],.ref 1001 0,.ref 1002 0,.ref 1003 0],(oI body g nx b s rec))):=by kernel_rfl
noncomputable def rfA:Code:=match at_ cS [1,1,1,1,0,1,0] with | .rangeFunc _ _ x _=>x | c=>c
noncomputable def rfB:Code:=match at_ cS [1,1,1,1,0,1,0] with | .rangeFunc _ _ _ x=>x | c=>c
noncomputable def GR:Cfg:=⟨Tryz.prog,mkEnv [],mkEnvR [],98,keepI,[],[]⟩
theorem GR_env:EnvOk Tryz.prog GR.env:=EnvOk_mk (l:=[]) trivial
theorem GR_envR:EnvROk Tryz.prog GR.envR:=EnvROk_mk (l:=[]) trivial
def cutA:Cut:=⟨[7,8,9,10],[⟨.fix 1005,1005,.cells []⟩,⟨.fix 1004,1004,.cells []⟩,⟨.fix 7,7,.cells []⟩,⟨.fix 8,8,.cells []⟩,⟨.cell 8 0,81,.cells []⟩,⟨.fix 1001,1001,.cells []⟩,⟨.fix 1002,1002,.cells []⟩,⟨.fix 1003,1003,.cells []⟩]⟩
def cutB:Cut:=⟨[],[⟨.fix 1005,1005,.cells []⟩,⟨.fix 1004,1004,.cells []⟩,⟨.fix 7,7,.cells []⟩,⟨.fix 8,8,.cells []⟩,⟨.cell 8 0,81,.cells []⟩,⟨.fix 1001,1001,.cells []⟩,⟨.fix 1002,1002,.cells []⟩,⟨.fix 1003,1003,.cells []⟩]⟩
theorem asg_eq (s t:List UInt8) (body i b nx:Int) (g:List (List UInt8)) (rec:Loop):runC GR agNone [] rfA (mkS [(7,.ref 7 0),(8,.ref 8 0),(35,.p (.str t)),(36,.p (.int .i64 nx))] (oI body g i b s rec)) (kTag keepI cutA)=some (.tup [.p (.int .i64 (-1)),.ref 7 0,.ref 8 0,.p (.str t),.p (.int .i64 nx)],(oI body g i b s rec)):=by kernel_rfl
theorem rnd_eq (s t:List UInt8) (body i b nx:Int) (g:List (List UInt8)) (rec:Loop):runC GR agNone [] rfB (mkS [(7,.ref 7 0),(8,.ref 8 0),(9,.p (.str t)),(10,.p (.int .i64 nx))] (oI body g i b s rec)) (kTag keepI cutB)=cond (t==([]:List UInt8)) (some (.tup [.p (.int .i64 (0))],(oI nx g i b s rec))) (need ((decide ((g.length:Int) > (0:Int)))=true->0<=(0:Int)/\(0:Int) < (t.length:Int)) (need (((decide ((g.length:Int) > (0:Int)))&&(!(((t.getD ((0:Int)).toNat 0).toNat:Int)==(32:Int))))=true->0<=(0:Int)/\(0:Int) < (t.length:Int)) (cond ((decide ((g.length:Int) > (0:Int)))&&((((t.getD ((0:Int)).toNat 0).toNat:Int)==(32:Int))||(((t.getD ((0:Int)).toNat 0).toNat:Int)==(9:Int)))) (need (i64ok ((g.length:Int) - (1:Int))) (need (0<=((g.length:Int) - (1:Int))/\((g.length:Int) - (1:Int)) < (g.length:Int)) (need (((g.length:Int) - (1:Int)).toNat < g.length) (need (lenok ((g.getD (((g.length:Int) - (1:Int)).toNat) []).length+t.length)) (need (0<=((g.length:Int) - (1:Int))/\((g.length:Int) - (1:Int)) < (g.length:Int)) (need (((g.length:Int) - (1:Int)).toNat < g.length) (some (.tup [.p (.int .i64 (-1))],(oI body (g.set (((g.length:Int) - (1:Int)).toNat) ((g.getD (((g.length:Int) - (1:Int)).toNat) [])++t)) i b s rec))))))))) (need ((g.length+[t].length) * 16<=140737488355328) (some (.tup [.p (.int .i64 (-1))],(oI body (g++[t]) i b s rec))))))):=
 Eq.trans (show runC GR agNone [] rfB (mkS [(7,.ref 7 0),(8,.ref 8 0),(9,.p (.str t)),(10,.p (.int .i64 nx))] (oI body g i b s rec)) (kTag keepI cutB)=cond (t==([]:List UInt8)) (some (.tup [.p (.int .i64 (0))],(oI nx g i b s rec))) (need ((decide ((g.length:Int) > (0:Int)))=true->(decide ((g.length:Int) > (0:Int)))=true) (need ((decide ((g.length:Int) > (0:Int)))=true->0<=(0:Int)/\(0:Int) < (t.length:Int)) (need ((decide ((g.length:Int) > (0:Int)))=true->(decide ((g.length:Int) > (0:Int)))=true) (need ((decide ((g.length:Int) > (0:Int)))=true->(decide ((g.length:Int) > (0:Int)))=true) (need (((decide ((g.length:Int) > (0:Int)))&&(!(((t.getD ((0:Int)).toNat 0).toNat:Int)==(32:Int))))=true->((decide ((g.length:Int) > (0:Int)))&&(!(((t.getD ((0:Int)).toNat 0).toNat:Int)==(32:Int))))=true) (need (((decide ((g.length:Int) > (0:Int)))&&(!(((t.getD ((0:Int)).toNat 0).toNat:Int)==(32:Int))))=true->0<=(0:Int)/\(0:Int) < (t.length:Int)) (need (((decide ((g.length:Int) > (0:Int)))&&(!(((t.getD ((0:Int)).toNat 0).toNat:Int)==(32:Int))))=true->((decide ((g.length:Int) > (0:Int)))&&(!(((t.getD ((0:Int)).toNat 0).toNat:Int)==(32:Int))))=true) (need ((decide ((g.length:Int) > (0:Int)))=true->(decide ((g.length:Int) > (0:Int)))=true) (need ((decide ((g.length:Int) > (0:Int)))=true->(((t.getD ((0:Int)).toNat 0).toNat:Int)==(32:Int))=false->((decide ((g.length:Int) > (0:Int)))&&(!(((t.getD ((0:Int)).toNat 0).toNat:Int)==(32:Int))))=true) (need ((decide ((g.length:Int) > (0:Int)))=true->(decide ((g.length:Int) > (0:Int)))=true) (cond ((decide ((g.length:Int) > (0:Int)))&&((((t.getD ((0:Int)).toNat 0).toNat:Int)==(32:Int))||(((t.getD ((0:Int)).toNat 0).toNat:Int)==(9:Int)))) (need (i64ok ((g.length:Int) - (1:Int))) (need (0<=((g.length:Int) - (1:Int))/\((g.length:Int) - (1:Int)) < (g.length:Int)) (need (((g.length:Int) - (1:Int)).toNat < g.length) (need (lenok ((g.getD (((g.length:Int) - (1:Int)).toNat) []).length+t.length)) (need (0<=((g.length:Int) - (1:Int))/\((g.length:Int) - (1:Int)) < (g.length:Int)) (need (((g.length:Int) - (1:Int)).toNat < g.length) (some (.tup [.p (.int .i64 (-1))],(oI body (g.set (((g.length:Int) - (1:Int)).toNat) ((g.getD (((g.length:Int) - (1:Int)).toNat) [])++t)) i b s rec))))))))) (need ((g.length+[t].length) * 16<=140737488355328) (some (.tup [.p (.int .i64 (-1))],(oI body (g++[t]) i b s rec))))))))))))))) by kernel_rfl) (cond_congr (rfl) (need_strike (show (decide ((g.length:Int) > (0:Int)))=true->(decide ((g.length:Int) > (0:Int)))=true from (fun q0=>q0)) (need_congr (need_strike (show (decide ((g.length:Int) > (0:Int)))=true->(decide ((g.length:Int) > (0:Int)))=true from (fun q0=>q0)) (need_strike (show (decide ((g.length:Int) > (0:Int)))=true->(decide ((g.length:Int) > (0:Int)))=true from (fun q0=>q0)) (need_strike (show ((decide ((g.length:Int) > (0:Int)))&&(!(((t.getD ((0:Int)).toNat 0).toNat:Int)==(32:Int))))=true->((decide ((g.length:Int) > (0:Int)))&&(!(((t.getD ((0:Int)).toNat 0).toNat:Int)==(32:Int))))=true from (fun q0=>q0)) (need_congr (need_strike (show ((decide ((g.length:Int) > (0:Int)))&&(!(((t.getD ((0:Int)).toNat 0).toNat:Int)==(32:Int))))=true->((decide ((g.length:Int) > (0:Int)))&&(!(((t.getD ((0:Int)).toNat 0).toNat:Int)==(32:Int))))=true from (fun q0=>q0)) (need_strike (show (decide ((g.length:Int) > (0:Int)))=true->(decide ((g.length:Int) > (0:Int)))=true from (fun q0=>q0)) (need_strike (show (decide ((g.length:Int) > (0:Int)))=true->(((t.getD ((0:Int)).toNat 0).toNat:Int)==(32:Int))=false->((decide ((g.length:Int) > (0:Int)))&&(!(((t.getD ((0:Int)).toNat 0).toNat:Int)==(32:Int))))=true from (fun q0 q1=>(and_mk q0 (not_mk q1)))) (need_strike (show (decide ((g.length:Int) > (0:Int)))=true->(decide ((g.length:Int) > (0:Int)))=true from (fun q0=>q0)) (rfl))))))))))))
def oR (body:Int) (g:List (List UInt8)):List (Nat×AObj):=[(7,.cells [.p (.int .i64 body)]),(8,.cells [.arr 81]),(81,.larr 9 true 1 (.dat .str g))]
abbrev lR:List (Nat×AV):=[(6,.p .nil),(7,.ref 7 0),(8,.ref 8 0)]
noncomputable def GT:Cfg:=⟨Tryz.prog,mkEnv [(57,sp_fone)],mkEnvR [],98,[],[([0,1,0,1,1,1,1,1],⟨[6,7,66,67,68],[⟨.slot 6,6,(.larr 85 false 2 (.dat (.pair .str .str) ([]:List (List UInt8×List UInt8))))⟩,⟨.slot 7,7,.cells []⟩,⟨.slot 66,66,.cells []⟩]⟩),([1,0,1,0,0,1,1,0,0,1,0,1,1,1,1,1],⟨[6,7,13,66,67,68,84],[⟨.slot 6,6,(.larr 85 false 2 (.dat (.pair .str .str) ([]:List (List UInt8×List UInt8))))⟩,⟨.slot 7,7,.cells []⟩,⟨.slot 66,66,.cells []⟩]⟩),([1,1,1,0,0,1,0,1,1,1,1,1],⟨[6,7,66,67,68],[⟨.slot 6,6,(.larr 85 false 2 (.dat (.pair .str .str) ([]:List (List UInt8×List UInt8))))⟩,⟨.slot 7,7,.cells []⟩,⟨.slot 66,66,.cells []⟩]⟩)],[]⟩
theorem GT_env:EnvOk Tryz.prog GT.env:=EnvOk_mk (l:=[(57,sp_fone)]) ⟨ok_fone.any,trivial⟩
theorem GT_envR:EnvROk Tryz.prog GT.envR:=EnvROk_mk (l:=[]) trivial
noncomputable def Brest_1 (F f1:Nat) (vi1 vi2:Int) (vl3:List (List UInt8×List UInt8)) (vi4:Int) (vl5:List (List UInt8)):Option Ans:=runR GT cS (kP Tryz.prog Tryz.f34.results.toList) F [] [1,1,1,1,1,0,1,0] f1 [(6,.arr 6),(7,.ref 7 0),(66,.arr 66),(67,.p (.int .i64 vi1)),(68,.p (.int .i64 vi2))] [(6,.larr 85 false 2 (.dat (.pair .str .str) vl3)),(7,.cells [.p (.int .i64 vi4)]),(66,.larr 9 true 1 (.dat .str vl5))]
noncomputable def Brest_2 (F f1:Nat) (vs6:List UInt8) (vi1 vi2:Int) (vc7:Bool) (vl3:List (List UInt8×List UInt8)) (vi4:Int) (vl5:List (List UInt8)):Option Ans:=runB GT cS (kP Tryz.prog Tryz.f34.results.toList) F [f1] [1,1,1,1,1,0,1,0,0,1,1,0,0,1,0,1] [(6,.arr 6),(7,.ref 7 0),(13,.p (.str vs6)),(66,.arr 66),(67,.p (.int .i64 vi1)),(68,.p (.int .i64 vi2)),(84,.p (.bool vc7))] [(6,.larr 85 false 2 (.dat (.pair .str .str) vl3)),(7,.cells [.p (.int .i64 vi4)]),(66,.larr 9 true 1 (.dat .str vl5))]
noncomputable def Brest_3 (F f1:Nat) (vi1 vi2:Int) (vl8:List (List UInt8×List UInt8)) (vi9:Int) (vl10:List (List UInt8)):Option Ans:=runB GT cS (kP Tryz.prog Tryz.f34.results.toList) F [f1] [1,1,1,1,1,0,1,0,0,1,1,1] [(6,.arr 6),(7,.ref 7 0),(66,.arr 66),(67,.p (.int .i64 vi1)),(68,.p (.int .i64 vi2))] [(6,.larr 85 false 2 (.dat (.pair .str .str) vl8)),(7,.cells [.p (.int .i64 vi9)]),(66,.larr 9 true 1 (.dat .str vl10))]
theorem Brest_1_eq (F f1:Nat) (vi1 vi2:Int) (vl3:List (List UInt8×List UInt8)) (vi4:Int) (vl5:List (List UInt8)):Brest_1 F (f1+1) vi1 vi2 vl3 vi4 vl5=cond (decide (vi2 < vi1)) (need (0<=vi2/\vi2 < (vl5.length:Int)) (need ((vi2).toNat < vl5.length) (need ((vi2==(0:Int))=true->0<=(0:Int)/\(0:Int) < ((vl5.getD ((vi2).toNat) []).length:Int)) (need (((vi2==(0:Int))&&(!((((vl5.getD ((vi2).toNat) []).getD ((0:Int)).toNat 0).toNat:Int)==(32:Int))))=true->0<=(0:Int)/\(0:Int) < ((vl5.getD ((vi2).toNat) []).length:Int)) (Brest_2 F f1 (vl5.getD ((vi2).toNat) []) vi1 vi2 ((vi2==(0:Int))&&(((((vl5.getD ((vi2).toNat) []).getD ((0:Int)).toNat 0).toNat:Int)==(32:Int))||((((vl5.getD ((vi2).toNat) []).getD ((0:Int)).toNat 0).toNat:Int)==(9:Int)))) vl3 vi4 vl5))))) (some (.tup [.p (.list 2 (.dat (.pair .str .str) vl3)),.p (.int .i64 vi4)],[])):=
 Eq.trans (show Brest_1 F (f1+1) vi1 vi2 vl3 vi4 vl5=cond (decide (vi2 < vi1)) (need (0<=vi2/\vi2 < (vl5.length:Int)) (need ((vi2).toNat < vl5.length) (need ((vi2==(0:Int))=true->(vi2==(0:Int))=true) (need ((vi2==(0:Int))=true->0<=(0:Int)/\(0:Int) < ((vl5.getD ((vi2).toNat) []).length:Int)) (need ((vi2==(0:Int))=true->(vi2==(0:Int))=true) (need ((vi2==(0:Int))=true->(vi2==(0:Int))=true) (need (((vi2==(0:Int))&&(!((((vl5.getD ((vi2).toNat) []).getD ((0:Int)).toNat 0).toNat:Int)==(32:Int))))=true->((vi2==(0:Int))&&(!((((vl5.getD ((vi2).toNat) []).getD ((0:Int)).toNat 0).toNat:Int)==(32:Int))))=true) (need (((vi2==(0:Int))&&(!((((vl5.getD ((vi2).toNat) []).getD ((0:Int)).toNat 0).toNat:Int)==(32:Int))))=true->0<=(0:Int)/\(0:Int) < ((vl5.getD ((vi2).toNat) []).length:Int)) (need (((vi2==(0:Int))&&(!((((vl5.getD ((vi2).toNat) []).getD ((0:Int)).toNat 0).toNat:Int)==(32:Int))))=true->((vi2==(0:Int))&&(!((((vl5.getD ((vi2).toNat) []).getD ((0:Int)).toNat 0).toNat:Int)==(32:Int))))=true) (need ((vi2==(0:Int))=true->(vi2==(0:Int))=true) (need ((vi2==(0:Int))=true->((((vl5.getD ((vi2).toNat) []).getD ((0:Int)).toNat 0).toNat:Int)==(32:Int))=false->((vi2==(0:Int))&&(!((((vl5.getD ((vi2).toNat) []).getD ((0:Int)).toNat 0).toNat:Int)==(32:Int))))=true) (need ((vi2==(0:Int))=true->(vi2==(0:Int))=true) (Brest_2 F f1 (vl5.getD ((vi2).toNat) []) vi1 vi2 ((vi2==(0:Int))&&(((((vl5.getD ((vi2).toNat) []).getD ((0:Int)).toNat 0).toNat:Int)==(32:Int))||((((vl5.getD ((vi2).toNat) []).getD ((0:Int)).toNat 0).toNat:Int)==(9:Int)))) vl3 vi4 vl5))))))))))))) (some (.tup [.p (.list 2 (.dat (.pair .str .str) vl3)),.p (.int .i64 vi4)],[])) by kernel_rfl) (cond_congr (need_congr (need_congr (need_strike (show (vi2==(0:Int))=true->(vi2==(0:Int))=true from (fun q0=>q0)) (need_congr (need_strike (show (vi2==(0:Int))=true->(vi2==(0:Int))=true from (fun q0=>q0)) (need_strike (show (vi2==(0:Int))=true->(vi2==(0:Int))=true from (fun q0=>q0)) (need_strike (show ((vi2==(0:Int))&&(!((((vl5.getD ((vi2).toNat) []).getD ((0:Int)).toNat 0).toNat:Int)==(32:Int))))=true->((vi2==(0:Int))&&(!((((vl5.getD ((vi2).toNat) []).getD ((0:Int)).toNat 0).toNat:Int)==(32:Int))))=true from (fun q0=>q0)) (need_congr (need_strike (show ((vi2==(0:Int))&&(!((((vl5.getD ((vi2).toNat) []).getD ((0:Int)).toNat 0).toNat:Int)==(32:Int))))=true->((vi2==(0:Int))&&(!((((vl5.getD ((vi2).toNat) []).getD ((0:Int)).toNat 0).toNat:Int)==(32:Int))))=true from (fun q0=>q0)) (need_strike (show (vi2==(0:Int))=true->(vi2==(0:Int))=true from (fun q0=>q0)) (need_strike (show (vi2==(0:Int))=true->((((vl5.getD ((vi2).toNat) []).getD ((0:Int)).toNat 0).toNat:Int)==(32:Int))=false->((vi2==(0:Int))&&(!((((vl5.getD ((vi2).toNat) []).getD ((0:Int)).toNat 0).toNat:Int)==(32:Int))))=true from (fun q0 q1=>(and_mk q0 (not_mk q1)))) (need_strike (show (vi2==(0:Int))=true->(vi2==(0:Int))=true from (fun q0=>q0)) (rfl))))))))))))) (rfl))
theorem Brest_2_eq (F f1:Nat) (vs6:List UInt8) (vi1 vi2:Int) (vc7:Bool) (vl3:List (List UInt8×List UInt8)) (vi4:Int) (vl5:List (List UInt8)):Brest_2 F f1 vs6 vi1 vi2 vc7 vl3 vi4 vl5=cond (vc7) (Brest_3 F f1 vi1 vi2 vl3 vi4 vl5) (need (vs6.length<=1000000) (cond ((oneF vs6).2) (need ((vl3.length+[((oneF vs6).1.1,(oneF vs6).1.2)].length) * 32<=140737488355328) (Brest_3 F f1 vi1 vi2 (vl3++[((oneF vs6).1.1,(oneF vs6).1.2)]) vi4 vl5)) (Brest_3 F f1 vi1 vi2 vl3 vi4 vl5))):=by kernel_rfl
theorem Brest_3_eq (F f1:Nat) (vi1 vi2:Int) (vl8:List (List UInt8×List UInt8)) (vi9:Int) (vl10:List (List UInt8)):Brest_3 F f1 vi1 vi2 vl8 vi9 vl10=need (i64ok (vi2+(1:Int))) (Brest_1 F f1 vi1 (vi2+(1:Int)) vl8 vi9 vl10):=by kernel_rfl
theorem rest_eq (F:Nat) (body:Int) (g:List (List UInt8)):runC GT (runL GT F) [1,1,1,1,1] (at_ cS [1,1,1,1,1]) (mkS lR (oR body g)) (kP Tryz.prog Tryz.f34.results.toList)=Brest_1 F F (g.length:Int) (0:Int) ([]:List (List UInt8×List UInt8)) body g:=by kernel_rfl
end Go.Proofs.YtampckbjinodgaaGreatDoor
namespace Go.Am
open Go Go.RowKit
variable {P:Program} {C C':Ctx} {s s':S} {a a':Act} {w w' w1 w2:World} {γ γ' γ1 γ2:Nat->Option G} {M M' M1 M2:Mem} {o o' o1 o2:List (Nat×AObj)}
theorem Hold.of_st {l:List (Nat×AV)} (h:StG C γ M (mkS l o) a w):Hold γ M w o:=by
 refine ⟨h.ob,fun id hu=>h.us id ?_,h.sep,fun id g b h1 h2 h3=>(h.lo id g b h1 h2 h3).2,⟨h.wok,fun b ⟨id,g,h1,h2,h3⟩=>h.notab (s:=mkS l o) h1 h2 h3⟩⟩
 show (lookO id o).isSome=false
 rw [hu]; rfl
theorem aops_then {env:Env} (henv:EnvOk P env) {ops:Array Oper} {Q:Exit->Act->World->Prop} {l2:List Nat}:∀ (l:List Nat) {s s':S} {ps:List Prop} {a:Act} {w:World},
 aops P env C.nt ops l s=some (s',ps)->All ps->St C s a w->(∀ a' w',St C s' a' w'->wpOpsIn (FW C.rd) 0 P ops Q l2 a' w')->wpOpsIn (FW C.rd) 0 P ops Q (l++l2) a w:=by
 intro l
 induction l with
 | nil=>intro s s' ps a w h hp hs hq; cases h; exact hq a w hs
 | cons i r ih=>
  intro s s' ps a w h hp hs hq
  simp only [aops] at h
  simp only [List.cons_append,wpOpsIn]
  cases ho:ops[i]? with
  | none=>rw [ho] at h; cases h
  | some o=>
   rw [ho] at h
   dsimp only at h ⊢
   cases h1:astep P env C.nt ops o s with
   | none=>rw [h1] at h; cases h
   | some q=>
    obtain ⟨s1,p1⟩:=q
    rw [h1] at h
    dsimp only at h
    cases h2:aops P env C.nt ops r s1 with
    | none=>rw [h2] at h; cases h
    | some q=>
     obtain ⟨s2,p2⟩:=q
     rw [h2] at h
     cases h
     obtain ⟨hp1,hp2⟩:=All.append hp
     have:=astep_sound henv h1 hp1 hs (next:=wpOpsIn (FW C.rd) 0 P ops Q (r++l2)) (Q:=Q) fun a' w' hs'=>ih h2 hp2 hs' hq
     split
     .rename_i hw; rw [if_pos hw] at this; exact this
     .rename_i hw; rw [if_neg hw] at this; exact ⟨fun _ _=>trivial,this⟩
def aopsK (P:Program) (env:Env) (nt:Nat) (ops:Array Oper) (l:List Nat) (s:S) (fx:List Nat) (c:Cut):Option (Ans×List Prop):=
 match aops P env nt ops l s with
 | some (s',ps)=>match kTag fx c .normal s' with
  | some r=>some (r,ps)
  | none=>none
 | none=>none
theorem aopsK_get {nt:Nat} {fx:List Nat} (hC:CtxOk C nt fx) {env:Env} (henv:EnvOk P env) {ops:Array Oper} {Q:Exit->Act->World->Prop} {l l2:List Nat} {c:Cut} {t:AV} {xs:List AV} {ps:List Prop}
 (h:aopsK P env nt ops l s fx c=some ((.tup (t::xs),o),ps)) (hp:All ps) (hs:St C s a w) (hq:∀ a' w',St C (mkS (List.zip c.slots xs) o) a' w'->wpOpsIn (FW C.rd) 0 P ops Q l2 a' w'):wpOpsIn (FW C.rd) 0 P ops Q (l++l2) a w:=by
 unfold aopsK at h
 split at h
 .rename_i s' ps' he
  split at h
  .rename_i r hk
   cases h
   rw [<-hC.nt] at he
   exact aops_then henv l he hp hs fun a' w' hs'=>hq a' w' ((kTag_get hC hk).2 _ _ hs')
  .cases h
 .cases h
theorem ops_cons {F:Fence} {n:Nat} {ops:Array Oper} {Q:Exit->Act->World->Prop} {i:Nat} {rest:List Nat} {o:Oper} (ho:ops[i]?=some o) (hg:o.guard=none) (h:o.wpIn F n P a w (wpOpsIn F n P ops Q rest) Q):wpOpsIn F n P ops Q (i::rest) a w:=by
 unfold wpOpsIn
 rw [ho]
 dsimp only
 rw [if_pos (by simp [Region.wanted,hg])]
 exact h
theorem sl_nil {f:Nat->Value}:∀ t,ARel γ M (look t .any []) (f t):=fun _=>.any _
theorem sl_cons {f:Nat->Value} {k:Nat} {x:AV} {l:List (Nat×AV)} (h:ARel γ M x (f k)) (hr:∀ t,ARel γ M (look t .any l) (f t)):∀ t,ARel γ M (look t .any ((k,x)::l)) (f t):=by
 intro t
 unfold look
 cases hb:Nat.beq t k with
 | true=>rw [Nat.eq_of_beq_eq_true hb]; exact h
 | false=>exact hr t
theorem lookO_ne {id:Nat} {x y:AObj} {r:List (Nat×AObj)}:∀ i,i≠id->lookO i ((id,x)::r)=lookO i ((id,y)::r):=by
 intro i hi
 unfold lookO
 cases hb:Nat.beq i id with
 | true=>exact absurd (Nat.eq_of_beq_eq_true hb) hi
 | false=>rfl
theorem lookO_hd {id:Nat} {x:AObj} {r:List (Nat×AObj)}:lookO id ((id,x)::r)=some x:=by
 unfold lookO
 rw [Nat.beq_refl]
theorem ARel.ref_kept {γ γ':Nat->Option G} {M M':Mem} {id off:Nat} {v:Value} (h:ARel γ M (.ref id off) v) (k:∀ g,γ id=some g->γ' id=some g):ARel γ' M' (.ref id off) v:=by
 cases h with | ref _ _ b hb=>exact .ref _ _ b (k _ hb)
theorem ARel.p_any {γ γ':Nat->Option G} {M M':Mem} (hM:MLe M M') {x:PV} {v:Value} (h:ARel γ M (.p x) v):ARel γ' M' (.p x) v:=.p _ _ (h.p_inv.mono hM)
theorem ARel.clo0 {fn:Fn} {v:Value} (h:ARel γ M (.clo fn [] []) v):v=.func fn #[] #[]:=by
 cases h with
 | clo _ _ _ vf vc hf hc _ _=>
  have e1:vf=#[]:=Array.eq_empty_of_size_eq_zero hf
  have e2:vc=#[]:=Array.eq_empty_of_size_eq_zero hc
  rw [e1,e2]
theorem arr3 {v:Array Value} (h:v.size=3):∃ x y z,v=#[x,y,z]:=by
 obtain ⟨l⟩:=v
 match l,h with
 | [x,y,z],_=>exact ⟨x,y,z,rfl⟩
theorem ARel.clo3 {fn:Fn} {x y z:AV} {v:Value} (h:ARel γ M (.clo fn [] [x,y,z]) v):∃ p q r,v=.func fn #[] #[p,q,r]/\ARel γ M x p/\ARel γ M y q/\ARel γ M z r:=by
 cases h with
 | clo _ _ _ vf vc hf hc _ h2=>
  have e1:vf=#[]:=Array.eq_empty_of_size_eq_zero hf
  obtain ⟨p,q,r,rfl⟩:=arr3 hc
  exact ⟨p,q,r,by rw [e1],h2 0 (by simp),h2 1 (by simp),h2 2 (by simp)⟩
theorem Hold.raw_at (h:Hold γ M w o) {id b:Nat} {x:Obj} (hid:lookO id o=some (.raw x)) (hb:γ id=some (.cell b)):w.heap[b]?=some x/\b < w.heap.size:=by
 obtain ⟨b',hg',hx,_⟩:=h.ob id _ hid
 rw [hb] at hg'; cases hg'
 exact ⟨hx,h.lt id _ b (by rw [hid]; simp) hb rfl⟩
theorem gset {tm:Array Value} {k t:Nat} {v:Value} (hk:k < tm.size):(tm.setIfInBounds k v).getD t undef=if k=t then v else tm.getD t undef:=by
 rw [Array.getD_eq_getD_getElem?,Array.getElem?_setIfInBounds]
 split
 .rename_i h; subst h; simp []
 .rw [Array.getD_eq_getD_getElem?]
theorem st_init {nt:Nat} {l:List (Nat×AV)} {tm:Array Value} (hM:WOk M w) (hsl:∀ t,ARel γ0 M (look t .any l) (tm.getD t undef)) (hn:tm.size=nt):
 StG { w0:=w,M0:=M,own:=fun _=>False,nt:=nt,g0:=γ0 } γ0 M (mkS l []) { tmps:=tm,defers:=[] } w:=by
 refine ⟨hsl,?_,fun _ _=>rfl,?_,?_,hM.toMOk,MLe.refl M,fun _ _ _=>rfl,⟨rfl,rfl,rfl,Nat.le_refl _,fun _ _ _=>rfl,hM.tabs,fun _ h=>h.elim⟩,rfl,hn,GLe.refl γ0⟩
 .intro id o ho; cases ho
 .intro id id' g g' b h1; exact absurd rfl h1
 .intro id g b h1; exact absurd rfl h1
theorem chain3 {G:Cfg} (hG:CfgOk G P C) {nt:Nat} {fx:List Nat} (hC:CtxOk C nt fx) {c1 c2 c3 c4:Code} {c:Cut} {t:AV} {xs:List AV} {Q:Exit->Act->World->Prop} {b:Nat}
 (hv:runC G agNone [] c1 s (kNext G c2 (kNext G c3 (kTag fx c)))=some (.tup (t::xs),o)) (hs:St C s a w)
 (hn:∀ a w,t=.p (.int .i64 (-1))->St C (mkS (List.zip c.slots xs) o) a w->c4.wpIn (FW C.rd) 0 P (Exit.inBlock b Q) a w)
 (he:∀ e a w,e≠.normal->tagOf e=t->St C (mkS (List.zip c.slots xs) o) a w->Q e a w/\Exit.inBlock b Q e a w):
 (Code.seq c1 (.block b (.seq c2 (.seq c3 c4)))).wpIn (FW C.rd) 0 P Q a w:=by
 have key:∀ e s' a' w',e≠.normal->kTag fx c e s'=some (.tup (t::xs),o)->St C s' a' w'->Q e a' w'/\Exit.inBlock b Q e a' w':=by
  intro e s' a' w' hne hk hs'
  obtain ⟨h1,h2⟩:=kTag_get hC hk
  exact he e a' w' hne h1 (h2 _ _ hs')
 refine wpIn_seq (wpIn_piece hG hv hs fun e s1 a1 w1 hk1 hs1=>?_)
 cases e with
 | normal=>
  refine wpIn_block (wpIn_seq (wpIn_piece hG (s:=s1) hk1 hs1 fun e s2 a2 w2 hk2 hs2=>?_))
  cases e with
  | normal=>
   refine wpIn_seq (wpIn_piece hG (s:=s2) hk2 hs2 fun e s3 a3 w3 hk3 hs3=>?_)
   cases e with
   | normal=>
    obtain ⟨h1,h2⟩:=kTag_get hC hk3
    exact hn a3 w3 h1.symm (h2 _ _ hs3)
   | exit i=>exact (key (.exit i) s3 a3 w3 (by simp) hk3 hs3).2
   | ret=>exact (key .ret s3 a3 w3 (by simp) hk3 hs3).2
   | goto i=>exact (key (.goto i) s3 a3 w3 (by simp) hk3 hs3).2
   | panic i=>exact (key (.panic i) s3 a3 w3 (by simp) hk3 hs3).2
   | outgrown=>exact (key .outgrown s3 a3 w3 (by simp) hk3 hs3).2
  | exit i=>exact (key (.exit i) s2 a2 w2 (by simp) hk2 hs2).2
  | ret=>exact (key .ret s2 a2 w2 (by simp) hk2 hs2).2
  | goto i=>exact (key (.goto i) s2 a2 w2 (by simp) hk2 hs2).2
  | panic i=>exact (key (.panic i) s2 a2 w2 (by simp) hk2 hs2).2
  | outgrown=>exact (key .outgrown s2 a2 w2 (by simp) hk2 hs2).2
 | exit i=>exact (key (.exit i) s1 a1 w1 (by simp) hk1 hs1).1
 | ret=>exact (key .ret s1 a1 w1 (by simp) hk1 hs1).1
 | goto i=>exact (key (.goto i) s1 a1 w1 (by simp) hk1 hs1).1
 | panic i=>exact (key (.panic i) s1 a1 w1 (by simp) hk1 hs1).1
 | outgrown=>exact (key .outgrown s1 a1 w1 (by simp) hk1 hs1).1
theorem wpIn_pieceLp {G:Cfg} (hG:CfgOk G P C) (F:Nat) (p:List Nat) {c:Code} {s:S} {k:K} {r:Ans} {R:Exit->Act->World->Prop} (h:runC G (runL G F) p c s k=some r) (hs:St C s a w) (hk:∀ e s' a' w',k e s'=some r->St C s' a' w'->R e a' w'):c.wpIn (FW C.rd) 0 P R a w:=
 wpIn_mono ((runC_sound hG (fun p b s k Q=>runL_sound hG F p b s k Q) c p s k (fun e s'=>k e s'=some r) h (fun _ _ h=>h):T P C c s _) a w hs) fun e a' w' ⟨s',h1,h2⟩=>hk e s' a' w' h1 h2
end Go.Am
