/-
  The abstract machine of these proofs.
-/
import Derived.WalkKit
import Derived.CallsIn
import Derived.OrdersIn
import Derived.Deep.AppendSrc
import Derived.OpenShut
import Derived.Laws.StructEq
import Derived.Lib.ConvBytes
set_option linter.unusedVariables false
namespace Go.Am
open Go
inductive Part where
 | mk (type:List UInt8) (params:List (List UInt8×List UInt8)) (enc:List UInt8) (attach:Bool) (head:Int) (frm:Int) (til:Int) (kids:List Part)
 deriving Inhabited
inductive Node where
 | mk (kind:Int) (num:Int) (text:List UInt8) (keys:List (List UInt8)) (kids:List Node)
 deriving Inhabited
def Part.type:Part->List UInt8 | .mk a _ _ _ _ _ _ _=>a
def Part.params:Part->List (List UInt8×List UInt8) | .mk _ a _ _ _ _ _ _=>a
def Part.enc:Part->List UInt8 | .mk _ _ a _ _ _ _ _=>a
def Part.attach:Part->Bool | .mk _ _ _ a _ _ _ _=>a
def Part.head:Part->Int | .mk _ _ _ _ a _ _ _=>a
def Part.frm:Part->Int | .mk _ _ _ _ _ a _ _=>a
def Part.til:Part->Int | .mk _ _ _ _ _ _ a _=>a
def Part.kids:Part->List Part | .mk _ _ _ _ _ _ _ a=>a
def Node.kind:Node->Int | .mk a _ _ _ _=>a
def Node.num:Node->Int | .mk _ a _ _ _=>a
def Node.text:Node->List UInt8 | .mk _ _ a _ _=>a
def Node.keys:Node->List (List UInt8) | .mk _ _ _ a _=>a
def Node.kids:Node->List Node | .mk _ _ _ _ a=>a
inductive Ec where
 | bool
 | int (k:IntKind)
 | str
 | bytes
 | pair (a b:Ec)
 | list (a:Ec)
 | part
 | node
 deriving DecidableEq,Inhabited
@[reducible] def Elt:Ec->Type
 | .bool=>Bool
 | .int _=>Int
 | .str=>List UInt8
 | .bytes=>List UInt8
 | .pair a b=>Elt a×Elt b
 | .list a=>List (Elt a)
 | .part=>Part
 | .node=>Node
@[reducible] def dfl:(c:Ec)->Elt c
 | .bool=>false
 | .int _=>(0:Int)
 | .str=>([]:List UInt8)
 | .bytes=>([]:List UInt8)
 | .pair a b=>(dfl a,dfl b)
 | .list a=>([]:List (Elt a))
 | .part=>(.mk [] [] [] false 0 0 0 []:Part)
 | .node=>(.mk 0 0 [] [] []:Node)
def wid:Ec->Nat
 | .pair a b=>wid a+wid b
 | .part=>8
 | .node=>5
 | _=>1
end Go.Am
namespace Go.Am
open Go Go.RowKit
variable {P:Program} {a:Act} {w w':World} {r:Option Nat} {Q:Exit->Act->World->Prop}
abbrev FW (r:Option Nat):Fence:={ fn:=fun _=>True,depth:=none,alive:=false,round:=r }
theorem callsIn_FW {n:Nat} {f:FuncId} {args:Array Value} {R:Ending->World->Prop}:CallsIn (FW r) n P f args w R↔Calls P f args w R:=(callsIn_wide (n:=n) (P:=P) (f:=f) (args:=args) (w:=w) (R:=R))
theorem not_defer {ρ:Operand->Value} {o:Oper} {x:Next} (h:(execOp ρ o).run P w=.ok x w') (hx:∀ d,x≠.defer d):∀ c,o.op≠.defer c:=by
 intro c hc
 obtain ⟨dst,op,type,pos,after,guard⟩:=o
 dsimp only at hc
 subst hc
 simp only [execOp,Sem.run_bind] at h
 cases hr:(resolve ρ c type).run P w with
 | ok d w1=>rw [hr] at h; simp [Sem.run_pure] at h; exact hx d h.1.symm
 | halt _ _=>rw [hr] at h; cases h
theorem wpIn_of {o:Oper} {x:Next} {next:Act->World->Prop} (h:(execOp a.eval o).run P w=.ok x w') (hx:∀ d,x≠.defer d) (k:o.uponIn (FW r) 0 P a next Q (.ok x w')):o.wpIn (FW r) 0 P a w next Q:=by
 refine ⟨fun _ _=>trivial,?_⟩
 rw [Oper.semAt_eq _ _ _ (not_defer h hx),h]
 exact k
theorem wpIn_value {o:Oper} {v:Value} {next:Act->World->Prop} (h:(execOp a.eval o).run P w=.ok (.value v) w') (k:next (a.put o.dst v) w'):o.wpIn (FW r) 0 P a w next Q:=wpIn_of h (fun _ e=>by cases e) k
theorem wpIn_skip' {o:Oper} {next:Act->World->Prop} (h:(execOp a.eval o).run P w=.ok .skip w') (k:next (a.put o.dst undef) w'):o.wpIn (FW r) 0 P a w next Q:=wpIn_of h (fun _ e=>by cases e) k
theorem wpIn_call {o:Oper} {f:FuncId} {args:Array Value} {next:Act->World->Prop} (h:(execOp a.eval o).run P w=.ok (.enter f args) w')
 (k:Calls P f args w' fun e w''=>∃ v,e=.returned v/\next (a.put o.dst v) w''):o.wpIn (FW r) 0 P a w next Q:=
 wpIn_of h (fun _ e=>by cases e) ⟨fun h=>(by cases h),callsIn_FW.2 (k.mono fun e w'' ⟨v,he,hn⟩=>by subst he; exact hn)⟩
section
variable {b:Frame} {k:List Item} {cs:List Frame}
theorem stepR_scope {c:Code}:step P (lone (b.atR a (.code (.scope c)::k)) cs w)=.next (lone (b.atR a (.code c::.inScope c::k)) cs w):=
 step_lone_go (by simp [stepG,stepG.exec,Frame.atR])
theorem stepR_inScope {c:Code}:step P (lone (b.atR a (.inScope c::k)) cs w)=.next (lone (b.atR a k) cs w):=
 step_lone_go (by simp [stepG,stepG.exec,Frame.atR])
end
theorem wpIn_scope_straight {F:Fence} {n:Nat} {c:Code} (h:c.wpIn F n P (Exit.noGoto Q) a w):(Code.scope c).wpIn F n P Q a w:=by
 intro b k cs hro hb hr
 have h0:(lone (b.atR a (.code (.scope c)::k)) cs w).fenced P F:=fenced_calm hb hr rfl
 obtain ⟨e,a₁,w₁,hq,harr⟩:=h b (.inScope c::k) cs hro hb hr
 cases e with
 | normal=>exact ⟨.normal,a₁,w₁,hq,.head h0 stepR_scope (StepsIn.trans harr (.one (fenced_calm hb hr rfl) stepR_inScope))⟩
 | exit id=>
  have hx:exitTo id (.inScope c::k)=exitTo id k:=by simp [exitTo]
  exact ⟨.exit id,a₁,w₁,hq,fun k' hk=>.head h0 stepR_scope (harr.1 k' (by rw [hx]; exact hk)),
   fun hr' hk=>let ⟨k₁,h1,h2⟩:=harr.2 hr' (by rw [hx]; exact hk); ⟨k₁,h1,.head h0 stepR_scope h2⟩⟩
 | goto l=>exact hq.elim
 | ret=>exact ⟨_,a₁,w₁,hq,.of_steps (.one h0 stepR_scope) harr⟩
 | panic ch=>exact ⟨_,a₁,w₁,hq,.of_steps (.one h0 stepR_scope) harr⟩
 | outgrown=>exact ⟨_,a₁,w₁,hq,.of_steps (.one h0 stepR_scope) harr⟩
theorem wpIn_loop_f {F:Fence} {n:Nat} {c:Code} (I:Nat->Act->World->Prop)
 (round:∀ n' a w,I n' a w->c.wpIn F n P (Exit.then (fun a' w'=>∃ m,m < n'/\I m a' w') Q) a w) (n₀:Nat) (h₀:I n₀ a w):(Code.loop c).wpIn F n P Q a w:=by
 intro b k cs hro hb hr
 have key:∀ j a w,I j a w->∃ e a' w',Q e a' w'/\ArrivesIn (Machine.fenced P F) P (lone (b.atR a (.code c::.inLoop c::k)) cs w) b k cs e a' w':=by
  intro j
  induction j using Nat.strongRecOn with
  | _ j ih=>
   intro a w hI
   obtain ⟨e,a₁,w₁,hq,harr⟩:=round j a w hI b (.inLoop c::k) cs hro hb hr
   cases e with
   | normal=>
    obtain ⟨m,hlt,hI₁⟩:=hq
    obtain ⟨e₂,a₂,w₂,hq₂,harr₂⟩:=ih m hlt a₁ w₁ hI₁
    exact ⟨e₂,a₂,w₂,hq₂,.of_steps (StepsIn.trans harr (.one (fenced_calm hb hr rfl) stepR_inLoop)) harr₂⟩
   | exit id=>exact ⟨_,a₁,w₁,hq,.pass (x:=.inLoop c) rfl (fun _ _=>.inl (by simp)) harr⟩
   | goto l=>exact ⟨_,a₁,w₁,hq,.pass (x:=.inLoop c) rfl (fun _ _=>.inl (by simp)) harr⟩
   | ret=>exact ⟨_,a₁,w₁,hq,.pass (x:=.inLoop c) rfl (fun _ _=>.inl (by simp)) harr⟩
   | panic ch=>exact ⟨_,a₁,w₁,hq,.pass (x:=.inLoop c) rfl (fun _ _=>.inl (by simp)) harr⟩
   | outgrown=>exact ⟨_,a₁,w₁,hq,.pass (x:=.inLoop c) rfl (fun _ _=>.inl (by simp)) harr⟩
 obtain ⟨e,a',w',hq,harr⟩:=key n₀ a w h₀
 exact ⟨e,a',w',hq,.of_steps (.one (fenced_calm hb hr rfl) stepR_loop) harr⟩
end Go.Am
namespace Go.Am
open Go Go.RowKit
abbrev Mem:=Nat->Nat->Option Value
mutual
inductive PV where
 | bool (b:Bool)
 | int (k:IntKind) (n:Int)
 | str (l:List UInt8)
 | plain (v:Value)
 | nil
 | bytes (l:List UInt8)
 | list (k:Nat) (R:Rows)
 | box (n:Nat) (f:Nat->PV)
 | bad
inductive Rows where
 | fn (n:Nat) (f:Nat->Nat->PV)
 | dat (c:Ec) (l:List (Elt c))
end
def cell:(c:Ec)->Elt c->Nat->PV
 | .bool,x,_=>.bool x
 | .int k,x,_=>.int k x
 | .str,x,_=>.str x
 | .bytes,x,_=>.bytes x
 | .pair a b,x,j=>match Nat.blt j (wid a) with | true=>cell a x.1 j | false=>cell b x.2 (j - wid a)
 | .list a,x,_=>.list (wid a) (.dat a x)
 | .part,x,j=>match j with
  | 0=>.str x.type | 1=>.list 2 (.dat (.pair .str .str) x.params) | 2=>.str x.enc | 3=>.bool x.attach
  | 4=>.int .i64 x.head | 5=>.int .i64 x.frm | 6=>.int .i64 x.til | _=>.list 8 (.dat .part x.kids)
 | .node,x,j=>match j with
  | 0=>.int .i64 x.kind | 1=>.int .i64 x.num | 2=>.str x.text | 3=>.list 1 (.dat .str x.keys) | _=>.list 5 (.dat .node x.kids)
def Rows.n:Rows->Nat
 | .fn n _=>n
 | .dat _ l=>l.length
def Rows.f:Rows->Nat->Nat->PV
 | .fn _ f=>f
 | .dat c l=>fun i j=>cell c (l.getD i (dfl c)) j
def plainV:Value->Bool
 | .pointer none | .map none | .chan none | .nilFunc | .nilIface | .float _ _=>true
 | _=>false
def byteV (c:UInt8):Value:=.int .u8 (c.toNat:Int)
inductive PRel (M:Mem):PV->Value->Prop
 | bool (b:Bool):PRel M (.bool b) (.bool b)
 | int (k:IntKind) (n:Int) (h:k.has n):PRel M (.int k n) (.int k n)
 | str (l:List UInt8) (h:l.length<=maxLen):PRel M (.str l) (.string ⟨l.toArray⟩)
 | plain (v:Value) (h:plainV v=true):PRel M (.plain v) v
 | nil:PRel M .nil (.slice none 0 0)
 | bytesNil:PRel M (.bytes []) (.slice none 0 0)
 | bytes (l:List UInt8) (b off cap:Nat) (hm:l.length<=maxLen) (hc:l.length<=cap)
  (h:∀ i c,l[i]?=some c->M b (off+i)=some (byteV c)):PRel M (.bytes l) (.slice (some ⟨b,off,none⟩) l.length cap)
 | listNil (k:Nat) (R:Rows) (h0:R.n=0):PRel M (.list k R) (.slice none 0 0)
 | list (k:Nat) (R:Rows) (b off cap:Nat) (g:Nat->Nat->Value) (hm:R.n<=maxLen) (hc:R.n<=cap)
  (hM:∀ i j,i < R.n->j < k->M b (off+i * k+j)=some (g i j))
  (h:∀ i j,i < R.n->j < k->PRel M (R.f i j) (g i j)):PRel M (.list k R) (.slice (some ⟨b,off,none⟩) R.n cap)
 | box (n:Nat) (f:Nat->PV) (b off:Nat) (g:Nat->Value)
  (hM:∀ j,j < n->M b (off+j)=some (g j))
  (h:∀ j,j < n->PRel M (f j) (g j)):PRel M (.box n f) (.pointer (some ⟨b,off,none⟩))
def MLe (M M':Mem):Prop:=∀ b o v,M b o=some v->M' b o=some v
theorem MLe.refl (M:Mem):MLe M M:=fun _ _ _ h=>h
theorem MLe.trans {A B C:Mem} (h:MLe A B) (k:MLe B C):MLe A C:=fun b o v x=>k b o v (h b o v x)
theorem PRel.mono {M M':Mem} (hM:MLe M M') {x:PV} {v:Value} (h:PRel M x v):PRel M' x v:=by
 induction h with
 | bool b=>exact .bool b
 | int k n h=>exact .int k n h
 | str l h=>exact .str l h
 | plain v h=>exact .plain v h
 | nil=>exact .nil
 | bytesNil=>exact .bytesNil
 | bytes l b off cap hm hc h=>exact .bytes l b off cap hm hc fun i c hi=>hM _ _ _ (h i c hi)
 | listNil k R h0=>exact .listNil k R h0
 | list k R b off cap g hm hc h1 h2 ih=>exact .list k R b off cap g hm hc (fun i j a c=>hM _ _ _ (h1 i j a c)) ih
 | box n f b off g h1 h2 ih=>exact .box n f b off g (fun j a=>hM _ _ _ (h1 j a)) ih
theorem PRel.oneCell {M:Mem} {x:PV} {v:Value} (h:PRel M x v):v.oneCell'=true:=by
 cases h <;> try rfl
 rename_i h; cases v <;> first | rfl | simp [plainV] at h
inductive G where
 | cell (b:Nat)
 | arr (a:Option Nat) (k n cap:Nat)
def G.blk:G->Option Nat
 | .cell b=>some b
 | .arr a _ _ _=>a
inductive AV where
 | any
 | p (x:PV)
 | ref (id off:Nat)
 | arr (id:Nat)
 | aptr (id i off:Nat)
 | clo (fn:Fn) (fs cs:List AV)
 | agg (cs:List AV)
 | tup (cs:List AV)
 | gd (c:Bool) (x:AV)
 deriving Inhabited
def arrV (a:Option Nat) (n cap:Nat):Value:=.slice (a.map fun g=>⟨g,0,none⟩) n cap
inductive ARel (γ:Nat->Option G) (M:Mem):AV->Value->Prop
 | any (v:Value):ARel γ M .any v
 | p (x:PV) (v:Value) (h:PRel M x v):ARel γ M (.p x) v
 | ref (id off b:Nat) (h:γ id=some (.cell b)):ARel γ M (.ref id off) (.pointer (some ⟨b,off,none⟩))
 | arr (id:Nat) (a:Option Nat) (k n cap:Nat) (h:γ id=some (.arr a k n cap)):ARel γ M (.arr id) (arrV a n cap)
 | aptr (id i off g k n cap:Nat) (h:γ id=some (.arr (some g) k n cap)):ARel γ M (.aptr id i off) (.pointer (some ⟨g,i * k+off,none⟩))
 | clo (fn:Fn) (fs cs:List AV) (vf vc:Array Value) (hf:vf.size=fs.length) (hc:vc.size=cs.length)
  (h1:∀ i,i < fs.length->ARel γ M (fs.getD i .any) (vf.getD i undef))
  (h2:∀ i,i < cs.length->ARel γ M (cs.getD i .any) (vc.getD i undef)):ARel γ M (.clo fn fs cs) (.func fn vf vc)
 | agg (cs:List AV) (vs:Array Value) (hs:vs.size=cs.length)
  (h:∀ i,i < cs.length->ARel γ M (cs.getD i .any) (vs.getD i undef)):ARel γ M (.agg cs) (.agg vs)
 | tup (cs:List AV) (vs:Array Value) (hs:vs.size=cs.length)
  (h:∀ i,i < cs.length->ARel γ M (cs.getD i .any) (vs.getD i undef)):ARel γ M (.tup cs) (.tuple vs)
 | gd (c:Bool) (x:AV) (v:Value) (h:c=true->ARel γ M x v) (h0:c=false->v=undef):ARel γ M (.gd c x) v
def GLe (γ γ':Nat->Option G):Prop:=∀ id g,γ id=some g->γ' id=some g
theorem GLe.refl (γ:Nat->Option G):GLe γ γ:=fun _ _ h=>h
theorem GLe.trans {A B C:Nat->Option G} (h:GLe A B) (k:GLe B C):GLe A C:=fun b o x=>k b o (h b o x)
theorem ARel.mono {γ γ':Nat->Option G} {M M':Mem} (hγ:GLe γ γ') (hM:MLe M M') {x:AV} {v:Value} (h:ARel γ M x v):ARel γ' M' x v:=by
 induction h with
 | any v=>exact .any v
 | p x v h=>exact .p x v (h.mono hM)
 | ref id off b h=>exact .ref id off b (hγ _ _ h)
 | arr id a k n cap h=>exact .arr id a k n cap (hγ _ _ h)
 | aptr id i off g k n cap h=>exact .aptr id i off g k n cap (hγ _ _ h)
 | clo fn fs cs vf vc hf hc _ _ ih1 ih2=>exact .clo fn fs cs vf vc hf hc ih1 ih2
 | agg cs vs hs _ ih=>exact .agg cs vs hs ih
 | tup cs vs hs _ ih=>exact .tup cs vs hs ih
 | gd c x v _ h0 ih=>exact .gd c x v ih h0
inductive AObj where
 | cells (cs:List AV)
 | barr (e:TypeId) (mu:Bool) (l:List UInt8)
 | larr (e:TypeId) (mu:Bool) (k:Nat) (R:Rows)
 | bcv (e:TypeId) (l:List UInt8)
 | bldr (T:TypeId) (a:AV)
 | raw (o:Obj)
 deriving Inhabited
structure ArrOK (M:Mem) (w:World) (e:TypeId) (mu:Bool) (k n:Nat) (vs:List Value) (a:Option Nat) (cap:Nat):Prop where
 own:w.ownsRow 0 e k (arrV a n cap) n vs
 one:∀ v ∈ vs,v.oneCell'=true
 len:n<=maxLen
 mem:∀ g,a=some g->if mu then ∀ o,M g o=none else ∀ o,M g o=vs[o]?
def OM (γ:Nat->Option G) (M:Mem) (w:World) (id:Nat):AObj->Prop
 | .cells cs=>∃ b vs e,γ id=some (.cell b)/\w.heap[b]?=some (.cells vs e (0,0))/\vs.size=cs.length/\
  (∀ j,j < cs.length->ARel γ M (cs.getD j .any) (vs.getD j undef)/\(vs.getD j undef).oneCell'=true)/\(∀ o,M b o=none)
 | .barr e mu l=>∃ a cap,γ id=some (.arr a 1 l.length cap)/\ArrOK M w e mu 1 l.length (l.map byteV) a cap
 | .larr e mu k R=>∃ a cap vs,γ id=some (.arr a k R.n cap)/\(∀ i j,i < R.n->j < k->∃ v,vs[i * k+j]?=some v/\PRel M (R.f i j) v)/\
  ArrOK M w e mu k R.n vs a cap
 | .bcv e l=>∃ g cur,γ id=some (.arr (some g) 1 l.length cur.size)/\w.heap[g]?=some (.cells cur e (cur.size,cur.size+1))/\cur.toList.take l.length=l.map byteV/\
  l.length<=cur.size/\l.length<=maxLen/\(∀ o,M g o=none)
 | .bldr T a=>∃ b v0 v1,γ id=some (.cell b)/\w.heap[b]?=some (.cells #[v0,v1] T (0,0))/\(v0=.pointer none\/v0=.pointer (some ⟨b,0,none⟩))/\ARel γ M a v1/\v1.oneCell'=true/\(∀ o,M b o=none)
 | .raw o=>∃ b,γ id=some (.cell b)/\w.heap[b]?=some o/\(∀ q,M b q=none)
structure S where
 sl:Nat->AV
 ob:Nat->Option AObj
 us:Nat->Bool
structure Ctx where
 w0:World
 M0:Mem
 own:Nat->Prop
 nt:Nat
 g0:Nat->Option G
 rd:Option Nat:=none
 dl:List Deferred:=[]
def MOk (M:Mem) (w:World):Prop:=∀ b o v,M b o=some v->w.cell? ⟨b,o,none⟩=some v
structure Fr (C:Ctx) (w:World):Prop where
 os:w.os=C.w0.os
 tape:w.tape=C.w0.tape
 output:w.output=C.w0.output
 size:C.w0.heap.size<=w.heap.size
 block:∀ b,b < C.w0.heap.size->¬ C.own b->w.heap[b]?=C.w0.heap[b]?
structure StG (C:Ctx) (γ:Nat->Option G) (M:Mem) (s:S) (a:Act) (w:World):Prop where
 sl:∀ t,ARel γ M (s.sl t) (a.tmps.getD t undef)
 ob:∀ id o,s.ob id=some o->OM γ M w id o
 us:∀ id,s.us id=false->γ id=none
 sep:∀ id id' g g' b,s.ob id≠none->s.ob id'≠none->γ id=some g->γ id'=some g'->g.blk=some b->g'.blk=some b->id=id'
 lo:∀ id g b,s.ob id≠none->γ id=some g->g.blk=some b->(C.w0.heap.size<=b\/C.own b)/\b < w.heap.size
 mem:MOk M w
 le:MLe C.M0 M
 new:∀ b,b < C.w0.heap.size->¬ C.own b->M b=C.M0 b
 fr:Fr C w
 df:a.defers=C.dl
 nt:a.tmps.size=C.nt
 gl:GLe C.g0 γ
def St (C:Ctx) (s:S) (a:Act) (w:World):Prop:=∃ γ M,StG C γ M s a w
def upd {α:Type} (f:Nat->α) (i:Nat) (x:α):Nat->α:=fun j=>match Nat.beq j i with | true=>x | false=>f j
theorem upd_same {α:Type} (f:Nat->α) (i:Nat) (x:α):upd f i x i=x:=by simp [upd]
theorem upd_ne {α:Type} (f:Nat->α) {i j:Nat} (x:α) (h:j≠i):upd f i x j=f j:=by
 unfold upd
 cases hb:Nat.beq j i with
 | true=>exact absurd (Nat.eq_of_beq_eq_true hb) h
 | false=>rfl
end Go.Am
namespace Go.Am
open Go Go.RowKit
@[reducible] def i64ok (n:Int):Prop:=-9223372036854775808<=n/\n<=9223372036854775807
@[reducible] def lenok (n:Nat):Prop:=n<=9223372036854775807
theorem has_i64 {n:Int} (h:i64ok n):IntKind.i64.has n:=by
 unfold i64ok at h; simp only [IntKind.has,IntKind.min,IntKind.max,IntKind.signed,IntKind.bits]; simp; omega
theorem wrap_has (k:IntKind) (n:Int):k.has (k.wrap n):=by
 cases k <;> simp [IntKind.has,IntKind.wrap,IntKind.min,IntKind.max,IntKind.signed,IntKind.bits] <;> (try split) <;> omega
theorem wrap_of_has {k:IntKind} {n:Int} (h:k.has n):k.wrap n=n:=by
 cases k <;> simp [IntKind.has,IntKind.wrap,IntKind.min,IntKind.max,IntKind.signed,IntKind.bits] at h ⊢ <;> (try split) <;> omega
theorem has_u8 (c:UInt8):IntKind.u8.has (c.toNat:Int):=by
 have:=c.toNat_lt; simp [IntKind.has,IntKind.min,IntKind.max,IntKind.signed,IntKind.bits]; omega
def ibits (op:BinOp) (k:IntKind) (x y:Int):Int:=
 match op with
 | .and=>k.wrap ((BitVec.ofInt k.bits x&&& BitVec.ofInt k.bits y).toNat)
 | .or=>k.wrap ((BitVec.ofInt k.bits x||| BitVec.ofInt k.bits y).toNat)
 | .xor=>k.wrap ((BitVec.ofInt k.bits x ^^^ BitVec.ofInt k.bits y).toNat)
 | .andNot=>k.wrap ((BitVec.ofInt k.bits x&&& ~~~BitVec.ofInt k.bits y).toNat)
 | _=>0
def isI64:IntKind->Bool | .i64=>true | _=>false
@[reducible] def okP:Option Prop->Prop
 | none=>True
 | some p=>p
def arith (k:IntKind) (n:Int):PV×Option Prop:=
 match isI64 k with
 | true=>(.int k n,some (i64ok n))
 | false=>(.int k (k.wrap n),none)
def small:IntKind->Bool | .u64=>false | _=>true
def kindEq (a b:IntKind):Bool:=
 match a,b with
 | .i8,.i8 | .i16,.i16 | .i32,.i32 | .i64,.i64 | .u8,.u8 | .u16,.u16 | .u32,.u32 | .u64,.u64=>true
 | _,_=>false
theorem kindEq_eq {a b:IntKind} (h:kindEq a b=true):a=b:=by cases a <;> cases b <;> first | rfl | cases h
def abinInt (op:BinOp) (k:IntKind) (a b:Int):Option (PV×Option Prop):=
 match op with
 | .add=>some (arith k (a+b))
 | .sub=>some (arith k (a - b))
 | .mul=>some (arith k (a * b))
 | .quo=>match isI64 k with
  | true=>some (.int k (a.tdiv b),some (b≠0/\i64ok (a.tdiv b)))
  | false=>some (.int k (k.wrap (a.tdiv b)),some (b≠0))
 | .rem=>some (.int k (a.tmod b),some (b≠0))
 | .and=>some (.int k (ibits .and k a b),none)
 | .or=>some (.int k (ibits .or k a b),none)
 | .xor=>some (.int k (ibits .xor k a b),none)
 | .andNot=>some (.int k (ibits .andNot k a b),none)
 | .eql=>some (.bool (a==b),none)
 | .neq=>some (.bool (a != b),none)
 | .lss=>some (.bool (decide (a < b)),none)
 | .leq=>some (.bool (decide (a<=b)),none)
 | .gtr=>some (.bool (decide (a > b)),none)
 | .geq=>some (.bool (decide (a>=b)),none)
 | _=>none
def abinStr (op:BinOp) (a b:List UInt8):Option (PV×Option Prop):=
 match op with
 | .add=>some (.str (a++b),some (lenok (a.length+b.length)))
 | .eql=>some (.bool (a==b),none)
 | .neq=>some (.bool (a != b),none)
 | .lss=>some (.bool (Op.bytesLess a b),none)
 | .leq=>some (.bool (Op.bytesLess a b||a==b),none)
 | .gtr=>some (.bool (!(Op.bytesLess a b||a==b)),none)
 | .geq=>some (.bool (!(Op.bytesLess a b)),none)
 | _=>none
def abin (op:BinOp) (x y:PV):Option (PV×Option Prop):=
 match x,y with
 | .int k a,.int k' b=>
  match op with
  | .shl=>some (.int k (k.wrap (a * 2 ^ (min b.toNat k.bits))),some (0<=b))
  | .shr=>some (.int k (a.fdiv (2 ^ (min b.toNat k.bits))),some (0<=b))
  | op=>match kindEq k k' with | true=>abinInt op k a b | false=>none
 | .str a,.str b=>abinStr op a b
 | .bool a,.bool b=>match op with
  | .eql=>some (.bool (a==b),none)
  | .neq=>some (.bool (a != b),none)
  | _=>none
 | _,_=>none
theorem emod_le_self (a b:Int) (h:0<=a):a % b<=a:=by
 obtain ⟨m,rfl⟩:=Int.eq_ofNat_of_zero_le h
 have key:∀ n:Nat,(m:Int) % (n:Int)<=(m:Int):=fun n=>by
  have:=Nat.mod_le m n
  have e:((m % n:Nat):Int)=(m:Int) % (n:Int):=Int.natCast_emod m n
  omega
 rcases Int.natAbs_eq b with hb | hb
 .rw [hb]; exact key _
 .rw [hb,Int.emod_neg]; exact key _
theorem tmod_has {k:IntKind} {a b:Int} (ha:k.has a) (_hb:k.has b) (_h0:b≠0):k.has (a.tmod b):=by
 have h1:a.tmod b=a - b * (a.tdiv b):=by have:=Int.mul_tdiv_add_tmod a b; omega
 rcases Int.le_total 0 a with h | h
 .have h2:=Int.tmod_nonneg b h
  have h3:a.tmod b<=a:=by
   rw [Int.tmod_eq_emod_of_nonneg h]; exact emod_le_self a b h
  simp only [IntKind.has] at *
  have h4:k.min<=0:=by cases k <;> simp [IntKind.min,IntKind.signed,IntKind.bits]
  omega
 .have h2:a.tmod b<=0:=by
   have:=Int.tmod_nonneg b (a:=-a) (by omega)
   rw [Int.neg_tmod] at this; omega
  have h3:a<=a.tmod b:=by
   have hx:(-a).tmod b<=-a:=by
    rw [Int.tmod_eq_emod_of_nonneg (by omega:(0:Int)<=-a)]; exact emod_le_self (-a) b (by omega)
   rw [Int.neg_tmod] at hx; omega
  simp only [IntKind.has] at *
  have h4:0<=k.max:=by cases k <;> simp [IntKind.max,IntKind.signed,IntKind.bits]
  omega
theorem fdiv_has {k:IntKind} {a:Int} (ha:k.has a) (n:Nat):k.has (a.fdiv (2 ^ n)):=by
 have hp:(0:Int) < 2 ^ n:=Int.pow_pos (by decide)
 have e:a.fdiv (2 ^ n)=a / (2 ^ n):=Int.fdiv_eq_ediv_of_nonneg a (Int.le_of_lt hp)
 rw [e]
 simp only [IntKind.has] at *
 have h4:k.min<=0:=by cases k <;> simp [IntKind.min,IntKind.signed,IntKind.bits]
 have h5:0<=k.max:=by cases k <;> simp [IntKind.max,IntKind.signed,IntKind.bits]
 rcases Int.le_total 0 a with h | h
 .have h1:0<=a / 2 ^ n:=Int.ediv_nonneg h (Int.le_of_lt hp)
  have h2:a / 2 ^ n<=a:=Int.ediv_le_self _ h
  omega
 .have h1:a / 2 ^ n<=0:=by
   have:=Int.ediv_le_ediv hp h; simpa using this
  have h2:a<=a / 2 ^ n:=by
   rw [Int.le_ediv_iff_mul_le hp]
   have:a * 2 ^ n<=a * 1:=Int.mul_le_mul_of_nonpos_left h (by omega)
   omega
  omega
theorem arith_rel {M:Mem} {k:IntKind} {n:Int} (h:okP (arith k n).2):PRel M (arith k n).1 (.int k (k.wrap n)):=by
 unfold arith at *
 cases k <;> simp only [isI64] at h ⊢ <;> first
  | (rw [wrap_of_has (has_i64 h)]; exact .int _ _ (has_i64 h))
  | exact .int _ _ (wrap_has _ _)
variable {P:Program}
theorem ibits_run (op:BinOp) (k:IntKind) (a b:Int) (hop:op=.and\/op=.or\/op=.xor\/op=.andNot) (w:World):
 (Op.intBits op k a b).run P w=.ok (.int k (ibits op k a b)) w:=by
 rcases hop with rfl | rfl | rfl | rfl <;> simp [Op.intBits,ibits]
theorem abinInt_sound {M:Mem} {op:BinOp} {k:IntKind} {a b:Int} {r:PV} {ok:Option Prop} (h:abinInt op k a b=some (r,ok)) (hok:okP ok)
 (ha:k.has a) (hb:k.has b) (t:TypeId) (w:World):∃ v,(binOp op t (.int k a) (.int k b)).run P w=.ok v w/\PRel M r v:=by
 cases op <;> simp only [abinInt,Option.some.injEq,reduceCtorEq] at h
 case add=>cases hx:arith k (a+b); rw [hx] at h; cases h; have:=arith_rel (M:=M) (k:=k) (n:=a+b) (by rw [hx]; exact hok); rw [hx] at this; exact ⟨_,by simp [binOp,Op.intArith],this⟩
 case sub=>cases hx:arith k (a - b); rw [hx] at h; cases h; have:=arith_rel (M:=M) (k:=k) (n:=a - b) (by rw [hx]; exact hok); rw [hx] at this; exact ⟨_,by simp [binOp,Op.intArith],this⟩
 case mul=>cases hx:arith k (a * b); rw [hx] at h; cases h; have:=arith_rel (M:=M) (k:=k) (n:=a * b) (by rw [hx]; exact hok); rw [hx] at this; exact ⟨_,by simp [binOp,Op.intArith],this⟩
 case quo=>
  cases hk:isI64 k <;> rw [hk] at h <;> cases h
  .exact ⟨_,by simp [binOp,Op.intDiv,hok],.int _ _ (wrap_has _ _)⟩
  .have:k=.i64:=by cases k <;> first | rfl | cases hk
   subst this
   exact ⟨.int .i64 (a.tdiv b),by simp [binOp,Op.intDiv,hok.1,wrap_of_has (has_i64 hok.2)],.int _ _ (has_i64 hok.2)⟩
 case rem=>cases h; exact ⟨_,by simp [binOp,Op.intDiv,hok],.int _ _ (tmod_has ha hb hok)⟩
 case and=>cases h; exact ⟨_,by simp only [binOp,ne_eq,not_true_eq_false,if_false]; exact ibits_run .and k a b (by simp) w,.int _ _ (wrap_has _ _)⟩
 case or=>cases h; exact ⟨_,by simp only [binOp,ne_eq,not_true_eq_false,if_false]; exact ibits_run .or k a b (by simp) w,.int _ _ (wrap_has _ _)⟩
 case xor=>cases h; exact ⟨_,by simp only [binOp,ne_eq,not_true_eq_false,if_false]; exact ibits_run .xor k a b (by simp) w,.int _ _ (wrap_has _ _)⟩
 case andNot=>cases h; exact ⟨_,by simp only [binOp,ne_eq,not_true_eq_false,if_false]; exact ibits_run .andNot k a b (by simp) w,.int _ _ (wrap_has _ _)⟩
 all_goals (cases h; exact ⟨_,by simp [binOp,Op.intCmp],.bool _⟩)
theorem abinStr_sound {M:Mem} {op:BinOp} {a b:List UInt8} {r:PV} {ok:Option Prop} (h:abinStr op a b=some (r,ok)) (hok:okP ok)
 (t:TypeId) (w:World):∃ v,(binOp op t (.string ⟨a.toArray⟩) (.string ⟨b.toArray⟩)).run P w=.ok v w/\PRel M r v:=by
 have hta:∀ l:List UInt8,(⟨l.toArray⟩:ByteArray).toList=l:=fun l=>by simp [ByteArray.toList_eq]
 cases op <;> simp only [abinStr,Option.some.injEq,reduceCtorEq] at h <;> cases h
 case add=>
  refine ⟨.string ⟨(a++b).toArray⟩,?_,.str _ (by simpa [maxLen] using hok)⟩
  have hs:¬ (((⟨a.toArray⟩:ByteArray).size+(⟨b.toArray⟩:ByteArray).size:Nat):Int) > IntKind.i64.max:=by
   simp [IntKind.max,IntKind.signed,IntKind.bits,ByteArray.size]
   unfold lenok at hok; omega
  have he:(⟨a.toArray⟩:ByteArray)++(⟨b.toArray⟩:ByteArray)=⟨(a++b).toArray⟩:=by
   apply ByteArray.ext; simp
  simp only [binOp,Op.stringOp,hs,if_false,he]
  rfl
 all_goals exact ⟨_,by simp only [binOp,Op.stringOp,hta]; rfl,.bool _⟩
theorem PRel.int_inv {M:Mem} {k:IntKind} {n:Int} {v:Value} (h:PRel M (.int k n) v):v=.int k n/\k.has n:=by cases h; exact ⟨rfl,by assumption⟩
theorem PRel.str_inv {M:Mem} {l:List UInt8} {v:Value} (h:PRel M (.str l) v):v=.string ⟨l.toArray⟩/\l.length<=maxLen:=by cases h; exact ⟨rfl,by assumption⟩
theorem PRel.bool_inv {M:Mem} {b:Bool} {v:Value} (h:PRel M (.bool b) v):v=.bool b:=by cases h; rfl
theorem run_bool_eq (a b:Bool) (t:TypeId) (w:World) (ht:P.underlying t=some .bool):
 (Op.equal t (.bool a) (.bool b)).run P w=.ok (a==b) w:=by
 have key:∀ d,(Op.equalIn (d+1) t (.bool a) (.bool b)).run P w=.ok (a==b) w:=fun d=>by simp [Op.equalIn,run_underlying ht]
 exact key 9999
def isBoolT (P:Program) (t:TypeId):Bool:=match P.underlying t with | some .bool=>true | _=>false
end Go.Am
namespace Go.Am
open Go Go.RowKit
def acst:Value->AV
 | .bool b=>.p (.bool b)
 | .int k n=>match decide (k.min<=n/\n<=k.max) with | true=>.p (.int k n) | false=>.any
 | .string s=>match Nat.ble s.data.toList.length 9223372036854775807 with | true=>.p (.str s.data.toList) | false=>.any
 | .slice none 0 0=>.p .nil
 | v=>match plainV v with | true=>.p (.plain v) | false=>.any
def aev (s:Nat->AV):Operand->AV
 | .tmp t=>s t
 | .const v=>acst v
 | .global _=>.any
 | .func f=>.clo (.func f) [] []
theorem acst_rel (γ:Nat->Option G) (M:Mem) (v:Value):ARel γ M (acst v) v:=by
 have plain:ARel γ M (match plainV v with | true=>AV.p (.plain v) | false=>.any) v:=by
  cases h:plainV v
  .exact .any _
  .exact .p _ _ (.plain _ h)
 cases v with
 | bool b=>exact .p _ _ (.bool b)
 | int k n=>
  show ARel γ M (match decide (k.min<=n/\n<=k.max) with | true=>.p (.int k n) | false=>.any) _
  split
  .rename_i h; exact .p _ _ (.int _ _ (show k.has n from of_decide_eq_true (p:=k.min<=n/\n<=k.max) h))
  .exact .any _
 | string s=>
  show ARel γ M (match Nat.ble s.data.toList.length 9223372036854775807 with | true=>.p (.str s.data.toList) | false=>.any) _
  split
  .rename_i h
   have:=PRel.str (M:=M) s.data.toList (by unfold maxLen; exact Nat.le_of_ble_eq_true h)
   exact .p _ _ this
  .exact .any _
 | slice a l c=>
  unfold acst
  split
  .rename_i h; cases h
  .rename_i h; cases h
  .rename_i h; cases h
  .rename_i h; cases h; exact .p _ _ .nil
  .exact plain
 | _=>exact plain
theorem aev_rel {γ:Nat->Option G} {M:Mem} {s:Nat->AV} {a:Act} (h:∀ t,ARel γ M (s t) (a.tmps.getD t undef)) (x:Operand):
 ARel γ M (aev s x) (a.eval x):=by
 cases x with
 | tmp t=>exact h t
 | const v=>exact acst_rel γ M v
 | global g=>exact .any _
 | func f=>exact .clo (.func f) [] [] #[] #[] rfl rfl (fun i hi=>absurd hi (Nat.not_lt_zero _)) (fun i hi=>absurd hi (Nat.not_lt_zero _))
def AV.one:AV->Bool
 | .p _ | .ref _ _ | .arr _ | .aptr _ _ _ | .clo _ _ _=>true
 | _=>false
theorem ARel.oneCell {γ:Nat->Option G} {M:Mem} {x:AV} {v:Value} (h:ARel γ M x v) (ho:x.one=true):v.oneCell'=true:=by
 cases h <;> first | rfl | cases ho | skip
 case p h=>exact h.oneCell
def AV.cells:AV->List AV
 | .agg cs=>cs
 | x=>[x]
variable {P:Program}
def fieldOf (P:Program) (t:TypeId) (f:Nat):Option Field:=
 match P.underlying t with
 | some (.struct fs)=>fs[f]?
 | _=>none
def isAggT (P:Program) (t:TypeId):Option Bool:=
 match P.underlying t with
 | some (.struct _)=>some true
 | some (.array _ _)=>some true
 | some _=>some false
 | none=>none
def sizeT (P:Program) (t:TypeId):Option Nat:=(P.info? t).map (·.size)
theorem run_isAgg {t:TypeId} {b:Bool} (h:isAggT P t=some b) (w:World):(isAgg t).run P w=.ok b w:=by
 unfold isAggT at h
 cases hu:P.underlying t with
 | none=>rw [hu] at h; cases h
 | some d=>
  rw [hu] at h
  cases d <;> cases h <;> simp [isAgg,run_underlying hu]
theorem run_sizeOf {t:TypeId} {n:Nat} (h:sizeT P t=some n) (w:World):(sizeOf t).run P w=.ok n w:=by
 unfold sizeT at h
 cases hi:P.info? t with
 | none=>rw [hi] at h; cases h
 | some i=>rw [hi] at h; cases h; simp [sizeOf,typeInfo,hi]
def apart (P:Program) (t:TypeId) (cs:List AV) (off:Nat):Option AV:=
 match isAggT P t,sizeT P t with
 | some true,some n=>match Nat.ble (off+n) cs.length with
  | true=>some (.agg ((cs.drop off).take n))
  | false=>none
 | some false,some _=>match Nat.blt off cs.length with
  | true=>some (cs.getD off .any)
  | false=>none
 | _,_=>none
def fitsIn (s d:IntKind):Bool:=
 match s,d with
 | .u8,.i64 | .u16,.i64 | .u32,.i64 | .i8,.i64 | .i16,.i64 | .i32,.i64 | .i64,.i64 | .u8,.i32 | .u8,.u8 | .u8,.u32 | .u8,.u64 | .u8,.u16 | .i32,.i32 | .u64,.u64 | .u32,.u32 | .u32,.u64=>true
 | _,_=>false
theorem fits_has {s d:IntKind} {n:Int} (h:fitsIn s d=true) (hn:s.has n):d.has n:=by
 cases s <;> cases d <;> first
  | (exact Bool.noConfusion h)
  | (simp [IntKind.has,IntKind.min,IntKind.max,IntKind.signed,IntKind.bits] at hn ⊢; omega)
def aconv (P:Program) (d:TypeId) (x:PV):Option PV:=
 match P.underlying d,x with
 | some (.int k),.int s n=>match fitsIn s k with
  | true=>some (.int k n)
  | false=>some (.int k (k.wrap n))
 | some .string,.str l=>some (.str l)
 | _,_=>none
def isSliceT (P:Program) (t:TypeId):Bool:=match P.underlying t with | some (.slice _)=>true | _=>false
def isStrT (P:Program) (t:TypeId):Bool:=match P.underlying t with | some .string=>true | _=>false
def sliceE (P:Program) (t:TypeId):Option TypeId:=match P.underlying t with | some (.slice e)=>some e | _=>none
theorem isSliceT_spec {t:TypeId} (h:isSliceT P t=true):∃ e,P.underlying t=some (.slice e):=by
 unfold isSliceT at h; split at h
 .exact ⟨_,by assumption⟩
 .cases h
theorem isStrT_spec {t:TypeId} (h:isStrT P t=true):P.underlying t=some .string:=by
 unfold isStrT at h; split at h
 .assumption
 .cases h
theorem sliceE_spec {t e:TypeId} (h:sliceE P t=some e):P.underlying t=some (.slice e):=by
 unfold sliceE at h; split at h
 .cases h; assumption
 .cases h
def bool? (b:Bool) {α:Type} (x:α):Option α:=match b with | true=>some x | false=>none
def aslice (l:List UInt8) (lo hi:Int):AV×Option Prop:=
 (.p (.str ((l.take hi.toNat).drop lo.toNat)),some (0<=lo/\lo<=hi/\hi<=(l.length:Int)))
def plen:PV->Option Nat
 | .str l=>some l.length
 | .bytes l=>some l.length
 | .list _ R=>some R.n
 | .nil=>some 0
 | _=>none
def amin:List AV->Option Int
 | []=>none
 | [.p (.int .i64 a)]=>some a
 | _=>none
def afoldMin (x:Int):List AV->Option Int
 | []=>some x
 | .p (.int .i64 y)::r=>afoldMin (if y < x then y else x) r
 | _=>none
def afoldMax (x:Int):List AV->Option Int
 | []=>some x
 | .p (.int .i64 y)::r=>afoldMax (if y > x then y else x) r
 | _=>none
def ev1:List AV->Option (AV×Option Prop)
 | [x]=>some (x,none)
 | _=>none
def isConstBool:Operand->Option Bool
 | .const (.bool b)=>some b
 | _=>none
def evAnd (c:Bool):AV->Option (AV×Option Prop)
 | .gd c' (.p (.bool a))=>some (.p (.bool (c&&a)),some (c=true->c'=true))
 | .p (.bool a)=>some (.p (.bool (c&&a)),none)
 | _=>none
def evOr (c:Bool):AV->Option (AV×Option Prop)
 | .gd c' (.p (.bool a))=>some (.p (.bool (c||a)),some (c=false->c'=true))
 | .p (.bool a)=>some (.p (.bool (c||a)),none)
 | _=>none
def evPick (x y:Operand):List AV->Option (AV×Option Prop)
 | [.p (.bool c),a,b]=>match isConstBool y with
  | some false=>evAnd c a
  | _=>match isConstBool x with
   | some true=>evOr c b
   | _=>none
 | _=>none
def isBoolP:PV->Bool | .bool _=>true | _=>false
def isStrTy (P:Program) (t:TypeId):Bool:=match P.underlying t with | some .string=>true | _=>false
def eqCell (P:Program) (t:TypeId):AV->AV->Option Bool
 | .p (.str a),.p (.str b)=>match isStrTy P t with | true=>some (a==b) | false=>none
 | .p (.int k a),.p (.int k' b)=>match kindEq k k',P.underlying t with | true,some (.int _)=>some (a==b) | _,_=>none
 | .p (.bool a),.p (.bool b)=>match isBoolT P t with | true=>some (a==b) | false=>none
 | _,_=>none
def eqFlds (P:Program) (xs ys:List AV):List Field->Option Bool
 | []=>some true
 | f::fs=>match f.name != "_" with
  | true=>match apart P f.type xs f.offset,apart P f.type ys f.offset with
   | some a,some b=>match eqCell P f.type a b with
    | some c=>match eqFlds P xs ys fs with
     | some r=>some (c&&r)
     | none=>none
    | none=>none
   | _,_=>none
  | false=>none
def structEqT (P:Program) (t:TypeId):Bool:=(match P.underlying t with | some (.struct _)=>true | _=>false)&&(!(P.stoodInHeld t)&&!(P.eqGuardType P.depth t))
def evBin (P:Program) (op:BinOp) (t:TypeId):List AV->Option (AV×Option Prop)
 | [.p x,.p y]=>match isBoolP x with
  | true=>match isBoolT P t with
   | true=>(abin op x y).map fun r=>(.p r.1,r.2)
   | false=>none
  | false=>(abin op x y).map fun r=>(.p r.1,r.2)
 | [.agg xs,.agg ys]=>match structEqT P t with
  | true=>match eqFlds P xs ys (P.fieldsOf t).toList with
   | some c=>match op with
    | .eql=>some (.p (.bool c),none)
    | .neq=>some (.p (.bool (!c)),none)
    | _=>none
   | none=>none
  | false=>none
 | _=>none
def evUn (op:UnOp):List AV->Option (AV×Option Prop)
 | [.p (.bool b)]=>match op with
  | .not=>some (.p (.bool (!b)),none)
  | _=>none
 | [.p (.int k n)]=>match op with
  | .neg=>some (.p (arith k (0 - n)).1,(arith k (0 - n)).2)
  | _=>none
 | _=>none
def knownT (P:Program) (t:TypeId):Bool:=(P.underlying t).isSome
def evConv (P:Program) (s d:TypeId):List AV->Option (AV×Option Prop)
 | [.p x]=>match knownT P s with
  | true=>(aconv P d x).map fun r=>(.p r,none)
  | false=>none
 | _=>none
def evIndex (P:Program) (t:TypeId):List AV->Option (AV×Option Prop)
 | [.p (.str l),.p (.int _ i)]=>bool? (isStrT P t) (.p (.int .u8 ((l.getD i.toNat 0).toNat:Int)),some (0<=i/\i < (l.length:Int)))
 | _=>none
def elemSize (P:Program) (t:TypeId):Option Nat:=
 match sliceE P t with
 | some e=>sizeT P e
 | none=>none
def evSlice (P:Program) (t:TypeId) (lo hi:Bool):List AV->Option (AV×Option Prop)
 | [.p (.str l)]=>match lo,hi with
  | false,false=>bool? (isStrT P t) (.p (.str l),none)
  | _,_=>none
 | [.p (.str l),.p (.int _ i)]=>match lo,hi with
  | true,false=>bool? (isStrT P t) (.p (.str (l.drop i.toNat)),some (0<=i/\i<=(l.length:Int)))
  | false,true=>bool? (isStrT P t) (.p (.str (l.take i.toNat)),some (0<=i/\i<=(l.length:Int)))
  | _,_=>none
 | [.p (.str l),.p (.int _ i),.p (.int _ j)]=>match lo,hi with
  | true,true=>bool? (isStrT P t) (aslice l i j)
  | _,_=>none
 | [.p (.list k (.dat a l)),.p (.int _ i)]=>match lo,hi,elemSize P t with
  | true,false,some k'=>bool? (Nat.beq k k') (.p (.list k (.dat a (l.drop i.toNat))),some (0<=i/\i<=(l.length:Int)))
  | _,_,_=>none
 | _=>none
def evExtract (i:Nat):List AV->Option (AV×Option Prop)
 | [.tup cs]=>match Nat.blt i cs.length with | true=>some (cs.getD i .any,none) | false=>none
 | _=>none
def evField (P:Program) (t:TypeId) (f:Nat):List AV->Option (AV×Option Prop)
 | [.agg cs]=>match fieldOf P t f with
  | some fd=>(apart P fd.type cs fd.offset).map fun r=>(r,none)
  | none=>none
 | _=>none
def shiftAddr (k:Nat):AV->Option AV
 | .ref id off=>some (.ref id (off+k))
 | .p (.box n g)=>match Nat.ble k n with
  | true=>some (.p (.box (n - k) (fun j=>g (k+j))))
  | false=>none
 | .aptr id i off=>some (.aptr id i (off+k))
 | _=>none
def evFieldAddr (P:Program) (t:TypeId) (f:Nat):List AV->Option (AV×Option Prop)
 | [x]=>match fieldOf P t f with
  | some fd=>match sizeT P fd.type with
   | some (_+1)=>(shiftAddr fd.offset x).map fun r=>(r,none)
   | _=>none
  | none=>none
 | _=>none
def evIndexAddr (P:Program) (t:TypeId):List AV->Option (AV×Option Prop)
 | [.p (.list k R),.p (.int _ i)]=>match elemSize P t with
  | some k'=>bool? (Nat.beq k k') (.p (.box k (R.f i.toNat)),some (0<=i/\i < (R.n:Int)))
  | none=>none
 | [.p (.bytes l),.p (.int _ i)]=>match elemSize P t with
  | some k'=>bool? (Nat.beq 1 k') (.p (.box 1 (fun _=>.int .u8 ((l.getD i.toNat 0).toNat:Int))),some (0<=i/\i < (l.length:Int)))
  | none=>none
 | _=>none
def evNilCheck:List AV->Option (AV×Option Prop)
 | [.ref id off]=>some (.ref id off,none)
 | [.p (.box n f)]=>some (.p (.box n f),none)
 | _=>none
def evLen (P:Program) (t:TypeId):List AV->Option (AV×Option Prop)
 | [.p x]=>match x with
  | .str l=>bool? (isStrT P t) (.p (.int .i64 (l.length:Int)),none)
  | .bytes l=>bool? (isSliceT P t) (.p (.int .i64 (l.length:Int)),none)
  | .list _ R=>bool? (isSliceT P t) (.p (.int .i64 (R.n:Int)),none)
  | .nil=>bool? (isSliceT P t) (.p (.int .i64 0),none)
  | _=>none
 | _=>none
def evMin:List AV->Option (AV×Option Prop)
 | .p (.int .i64 a)::r=>(afoldMin a r).map fun n=>(.p (.int .i64 n),none)
 | _=>none
def evMax:List AV->Option (AV×Option Prop)
 | .p (.int .i64 a)::r=>(afoldMax a r).map fun n=>(.p (.int .i64 n),none)
 | _=>none
def evBuiltin (P:Program) (b:Builtin) (ts:Array TypeId) (xs:List AV):Option (AV×Option Prop):=
 match b with
 | .len=>match ts[0]? with | some t=>evLen P t xs | none=>none
 | .min=>evMin xs
 | .max=>evMax xs
 | _=>none
def evCallP (P:Program) (c:Call) (xs:List AV):Option (AV×Option Prop):=
 match c.callee with
 | .builtin b=>evBuiltin P b c.argTypes xs
 | _=>none
def evP (P:Program) (op:Op) (xs:List AV):Option (AV×Option Prop):=
 match op with
 | .move _=>ev1 xs
 | .assign _=>ev1 xs
 | .pick _ x y=>evPick x y xs
 | .binOp op t _ _ _=>evBin P op t xs
 | .unOp op _ _=>evUn op xs
 | .convert s d _=>evConv P s d xs
 | .index t _ _=>evIndex P t xs
 | .slice t _ lo hi mx=>match mx with
  | none=>evSlice P t lo.isSome hi.isSome xs
  | some _=>none
 | .extract _ i=>evExtract i xs
 | .field t _ f=>evField P t f xs
 | .fieldAddr t _ f=>evFieldAddr P t f xs
 | .indexAddr t _ _=>evIndexAddr P t xs
 | .makeFunc fn a _=>some (.clo fn (xs.take a.size) (xs.drop a.size),none)
 | .nilCheck _=>evNilCheck xs
 | .call c=>evCallP P c xs
 | _=>none
end Go.Am
namespace Go.Am
open Go Go.RowKit
variable {M:Mem}
def pStr:PV->Option (List UInt8) | .str l=>some l | _=>none
def pBool:PV->Option Bool | .bool b=>some b | _=>none
def pInt (k:IntKind):PV->Option Int
 | .int k' n=>(match kindEq k' k with | true=>some n | false=>none)
 | _=>none
def pBytes:PV->Option (List UInt8) | .bytes l=>some l | .nil=>some [] | _=>none
def pList (a:Ec):PV->Option (List (Elt a))
 | .nil=>some []
 | .list k (.dat a' l)=>match Nat.beq k (wid a),decEq a' a with
  | true,.isTrue h=>some (h ▸ l)
  | _,_=>none
 | _=>none
def toDat:(c:Ec)->List PV->Option (Elt c)
 | .bool,[x]=>pBool x
 | .int k,[x]=>pInt k x
 | .str,[x]=>pStr x
 | .bytes,[x]=>pBytes x
 | .list a,[x]=>pList a x
 | .pair a b,ys=>match toDat a (ys.take (wid a)),toDat b (ys.drop (wid a)) with
  | some x,some y=>some (x,y)
  | _,_=>none
 | .part,[a,b,c,d,e,f,g,h]=>match pStr a,pList (.pair .str .str) b,pStr c,pBool d,pInt .i64 e,pInt .i64 f,pInt .i64 g,pList .part h with
  | some a,some b,some c,some d,some e,some f,some g,some h=>some (.mk a b c d e f g h)
  | _,_,_,_,_,_,_,_=>none
 | .node,[a,b,c,d,e]=>match pInt .i64 a,pInt .i64 b,pStr c,pList .str d,pList .node e with
  | some a,some b,some c,some d,some e=>some (.mk a b c d e)
  | _,_,_,_,_=>none
 | _,_=>none
theorem pStr_spec {x:PV} {l:List UInt8} (h:pStr x=some l):x=.str l:=by cases x <;> cases h; rfl
theorem pBool_spec {x:PV} {l:Bool} (h:pBool x=some l):x=.bool l:=by cases x <;> cases h; rfl
theorem pInt_spec {k:IntKind} {x:PV} {l:Int} (h:pInt k x=some l):x=.int k l:=by
 cases x <;> simp only [pInt,reduceCtorEq] at h
 split at h
 .rename_i hk; cases h; rw [kindEq_eq hk]
 .cases h
theorem pBytes_spec {x:PV} {l:List UInt8} (h:pBytes x=some l) {v:Value} (hv:PRel M x v):PRel M (.bytes l) v:=by
 cases x <;> cases h
 .cases hv; exact .bytesNil
 .exact hv
theorem pList_spec {a:Ec} {x:PV} {l:List (Elt a)} (h:pList a x=some l) {v:Value} (hv:PRel M x v):PRel M (.list (wid a) (.dat a l)) v:=by
 cases x with
 | nil=>cases h; cases hv; exact .listNil _ _ rfl
 | list k R=>
  cases R with
  | fn n f=>cases h
  | dat a' l'=>
   simp only [pList] at h
   split at h
   .rename_i he hk heq; subst he; cases h; rw [<-Nat.eq_of_beq_eq_true hk]; exact hv
   .cases h
 | _=>cases h
theorem toDat_spec:∀ {c:Ec} {ys:List PV} {a:Elt c},toDat c ys=some a->ys.length=wid c/\∀ j,j < wid c->∀ v,PRel M (ys.getD j .bad) v->PRel M (cell c a j) v:=by
 have one:∀ {x:PV} {c:Ec} {a:Elt c},wid c=1->(∀ v,PRel M x v->PRel M (cell c a 0) v)->[x].length=wid c/\∀ j,j < wid c->∀ v,PRel M ([x].getD j .bad) v->PRel M (cell c a j) v:=by
  intro x c a hw h
  refine ⟨hw.symm,fun j hj v hv=>?_⟩
  have:j=0:=by omega
  subst this
  exact h v hv
 intro c
 induction c with
 | bool=>
  intro ys a h
  match ys,h with
  | [x],h=>exact one rfl fun v hv=>by rw [pBool_spec h] at hv; exact hv
 | int k=>
  intro ys a h
  match ys,h with
  | [x],h=>exact one rfl fun v hv=>by rw [pInt_spec h] at hv; exact hv
 | str=>
  intro ys a h
  match ys,h with
  | [x],h=>exact one rfl fun v hv=>by rw [pStr_spec h] at hv; exact hv
 | bytes=>
  intro ys a h
  match ys,h with
  | [x],h=>exact one rfl fun v hv=>pBytes_spec h hv
 | list b=>
  intro ys a h
  match ys,h with
  | [x],h=>exact one rfl fun v hv=>pList_spec h hv
 | pair a b iha ihb=>
  intro ys x h
  simp only [toDat] at h
  split at h
  .rename_i p q hp hq
   cases h
   obtain ⟨l1,h1⟩:=iha hp
   obtain ⟨l2,h2⟩:=ihb hq
   have l1':min (wid a) ys.length=wid a:=by rw [<-l1,List.length_take]; omega
   have l2':ys.length - wid a=wid b:=by rw [<-l2,List.length_drop]
   refine ⟨by simp only [wid]; omega,fun j hj v hv=>?_⟩
   simp only [wid] at hj
   simp only [cell]
   cases hlt:Nat.blt j (wid a) with
   | true=>
    have hlt:j < wid a:=Nat.le_of_ble_eq_true hlt
    refine h1 j hlt v ?_
    rw [List.getD_eq_getElem?_getD,List.getElem?_take_of_lt hlt,<-List.getD_eq_getElem?_getD]; exact hv
   | false=>
    have hge:wid a<=j:=by
     rcases Nat.lt_or_ge j (wid a) with h5 | h5
     .have:Nat.blt j (wid a)=true:=Nat.ble_eq_true_of_le h5
      rw [this] at hlt; cases hlt
     .exact h5
    refine h2 (j - wid a) (by omega) v ?_
    rw [List.getD_eq_getElem?_getD,List.getElem?_drop,<-List.getD_eq_getElem?_getD]
    have e:wid a+(j - wid a)=j:=by omega
    rw [e]; exact hv
  .cases h
 | part=>
  intro ys x h
  match ys,h with
  | [a,b,c,d,e,f,g,k],h=>
   simp only [toDat] at h
   split at h
   .rename_i ha hb hc hd he hf hg hk
    cases h
    refine ⟨rfl,fun j hj v hv=>?_⟩
    simp only [wid] at hj
    match j,hj,hv with
    | 0,_,hv=>rw [show ([a,b,c,d,e,f,g,k]:List PV).getD 0 .bad=a from rfl,pStr_spec ha] at hv; exact hv
    | 1,_,hv=>exact pList_spec hb hv
    | 2,_,hv=>rw [show ([a,b,c,d,e,f,g,k]:List PV).getD 2 .bad=c from rfl,pStr_spec hc] at hv; exact hv
    | 3,_,hv=>rw [show ([a,b,c,d,e,f,g,k]:List PV).getD 3 .bad=d from rfl,pBool_spec hd] at hv; exact hv
    | 4,_,hv=>rw [show ([a,b,c,d,e,f,g,k]:List PV).getD 4 .bad=e from rfl,pInt_spec he] at hv; exact hv
    | 5,_,hv=>rw [show ([a,b,c,d,e,f,g,k]:List PV).getD 5 .bad=f from rfl,pInt_spec hf] at hv; exact hv
    | 6,_,hv=>rw [show ([a,b,c,d,e,f,g,k]:List PV).getD 6 .bad=g from rfl,pInt_spec hg] at hv; exact hv
    | 7,_,hv=>exact pList_spec hk hv
   .cases h
 | node=>
  intro ys x h
  match ys,h with
  | [a,b,c,d,e],h=>
   simp only [toDat] at h
   split at h
   .rename_i ha hb hc hd he
    cases h
    refine ⟨rfl,fun j hj v hv=>?_⟩
    simp only [wid] at hj
    match j,hj,hv with
    | 0,_,hv=>rw [show ([a,b,c,d,e]:List PV).getD 0 .bad=a from rfl,pInt_spec ha] at hv; exact hv
    | 1,_,hv=>rw [show ([a,b,c,d,e]:List PV).getD 1 .bad=b from rfl,pInt_spec hb] at hv; exact hv
    | 2,_,hv=>rw [show ([a,b,c,d,e]:List PV).getD 2 .bad=c from rfl,pStr_spec hc] at hv; exact hv
    | 3,_,hv=>exact pList_spec hd hv
    | 4,_,hv=>exact pList_spec he hv
   .cases h
def datRows (c:Ec) (k:Nat):Nat->List PV->Option (List (Elt c))
 | 0,_=>some []
 | n+1,l=>match toDat c (l.take k),datRows c k n (l.drop k) with
  | some a,some r=>some (a::r)
  | _,_=>none
def rawR (k n:Nat) (l:List PV):Rows:=.fn n fun i j=>l.getD (i * k+j) .bad
def mkR (oc:Option Ec) (k n:Nat) (l:List PV):Rows:=
 match oc with
 | some c=>match Nat.beq k (wid c) with
  | true=>match datRows c k n l with
   | some r=>.dat c r
   | none=>rawR k n l
  | false=>rawR k n l
 | none=>rawR k n l
theorem datRows_spec {c:Ec} {k:Nat} (hk:k=wid c):∀ {n:Nat} {l:List PV} {r:List (Elt c)},datRows c k n l=some r->r.length=n/\
 ∀ i j,i < n->j < k->∀ v,PRel M (l.getD (i * k+j) .bad) v->PRel M (cell c (r.getD i (dfl c)) j) v:=by
 intro n
 induction n with
 | zero=>intro l r h; cases h; exact ⟨rfl,fun i j hi=>absurd hi (Nat.not_lt_zero _)⟩
 | succ n ih=>
  intro l r h
  simp only [datRows] at h
  split at h
  .rename_i a r' ha hr
   cases h
   obtain ⟨h1,h2⟩:=ih hr
   obtain ⟨h3,h4⟩:=toDat_spec (M:=M) ha
   refine ⟨by simp [h1],fun i j hi hj v hv=>?_⟩
   cases i with
   | zero=>
    simp only [List.getD_cons_zero]
    refine h4 j (by omega) v ?_
    rw [Nat.zero_mul,Nat.zero_add] at hv
    rw [List.getD_eq_getElem?_getD,List.getElem?_take_of_lt hj,<-List.getD_eq_getElem?_getD]; exact hv
   | succ i=>
    simp only [List.getD_cons_succ]
    refine h2 i j (by omega) hj v ?_
    rw [List.getD_eq_getElem?_getD,List.getElem?_drop,<-List.getD_eq_getElem?_getD]
    have e:k+(i * k+j)=(i+1) * k+j:=by rw [Nat.add_mul,Nat.one_mul]; omega
    rw [e]; exact hv
  .cases h
theorem mkR_spec (oc:Option Ec) (k n:Nat) (l:List PV):(mkR oc k n l).n=n/\∀ i j,i < n->j < k->∀ v,PRel M (l.getD (i * k+j) .bad) v->PRel M ((mkR oc k n l).f i j) v:=by
 have raw:(rawR k n l).n=n/\∀ i j,i < n->j < k->∀ v,PRel M (l.getD (i * k+j) .bad) v->PRel M ((rawR k n l).f i j) v:=⟨rfl,fun _ _ _ _ _ h=>h⟩
 unfold mkR
 split
 .split
  .rename_i hk
   split
   .rename_i hr; exact datRows_spec (Nat.eq_of_beq_eq_true hk) hr
   .exact raw
  .exact raw
 .exact raw
def repR (oc:Option Ec) (n:Nat) (z:PV):Rows:=
 match oc with
 | some c=>match Nat.beq 1 (wid c) with
  | true=>match toDat c [z] with
   | some a=>.dat c (List.replicate n a)
   | none=>.fn n fun _ _=>z
  | false=>.fn n fun _ _=>z
 | none=>.fn n fun _ _=>z
theorem repR_spec (oc:Option Ec) (n:Nat) (z:PV):(repR oc n z).n=n/\∀ i j,i < n->j < 1->∀ v,PRel M z v->PRel M ((repR oc n z).f i j) v:=by
 have raw:(Rows.fn n fun _ _=>z).n=n/\∀ i j,i < n->j < 1->∀ v,PRel M z v->PRel M ((Rows.fn n fun _ _=>z).f i j) v:=⟨rfl,fun _ _ _ _ _ h=>h⟩
 unfold repR
 split
 .split
  .rename_i hk
   split
   .rename_i ha
    obtain ⟨_,h4⟩:=toDat_spec (M:=M) ha
    refine ⟨List.length_replicate,fun i j hi hj v hv=>?_⟩
    have:j=0:=by omega
    subst this
    have hk:=Nat.eq_of_beq_eq_true hk
    simp only [Rows.f]
    rw [List.getD_eq_getElem?_getD,List.getElem?_replicate,if_pos hi]
    exact h4 0 (by omega) v hv
   .exact raw
  .exact raw
 .exact raw
def catL (n:Nat) (f g:Nat->Nat->PV):Nat->Nat->PV:=fun i j=>match Nat.blt i n with | true=>f i j | false=>g (i - n) j
def catR:Rows->Rows->Rows
 | .dat c l,.dat c' l'=>match decEq c' c with
  | .isTrue h=>.dat c (l++(h ▸ l':List (Elt c)))
  | .isFalse _=>.fn (l.length+l'.length) (catL l.length (Rows.dat c l).f (Rows.dat c' l').f)
 | .dat c l,.fn 0 _=>.dat c l
 | a,b=>.fn (a.n+b.n) (catL a.n a.f b.f)
theorem catL_lt {n:Nat} {f g:Nat->Nat->PV} {i j:Nat} (h:i < n):catL n f g i j=f i j:=by
 unfold catL
 have:Nat.blt i n=true:=Nat.ble_eq_true_of_le h
 rw [this]
theorem catL_ge {n:Nat} {f g:Nat->Nat->PV} {i j:Nat} (h:n<=i):catL n f g i j=g (i - n) j:=by
 unfold catL
 cases hlt:Nat.blt i n with
 | true=>exact absurd (Nat.le_of_ble_eq_true hlt:i < n) (by omega)
 | false=>rfl
theorem catR_spec (a b:Rows):(catR a b).n=a.n+b.n/\(∀ i j,i < a.n->(catR a b).f i j=a.f i j)/\(∀ i j,a.n<=i->i < a.n+b.n->(catR a b).f i j=b.f (i - a.n) j):=by
 have raw:∀ a b:Rows,(Rows.fn (a.n+b.n) (catL a.n a.f b.f)).n=a.n+b.n/\(∀ i j,i < a.n->(Rows.fn (a.n+b.n) (catL a.n a.f b.f)).f i j=a.f i j)/\(∀ i j,a.n<=i->i < a.n+b.n->(Rows.fn (a.n+b.n) (catL a.n a.f b.f)).f i j=b.f (i - a.n) j):=
  fun a b=>⟨rfl,fun i j h=>catL_lt h,fun i j h _=>catL_ge h⟩
 unfold catR
 split
 .rename_i c l c' l'
  split
  .rename_i h _
   subst h
   refine ⟨by simp [Rows.n],fun i j hi=>?_,fun i j hi _=>?_⟩
   .simp only [Rows.n] at hi
    simp only [Rows.f]
    rw [List.getD_eq_getElem?_getD,List.getElem?_append_left hi,<-List.getD_eq_getElem?_getD]
   .simp only [Rows.n] at hi
    simp only [Rows.f,Rows.n]
    rw [List.getD_eq_getElem?_getD,List.getElem?_append_right hi,<-List.getD_eq_getElem?_getD]
  .exact raw (.dat c l) (.dat c' l')
 .exact ⟨rfl,fun _ _ _=>rfl,fun i j h1 h2=>absurd h2 (by simp [Rows.n] at h1 ⊢; omega)⟩
 .exact raw _ _
def setL (f:Nat->Nat->PV) (i j m:Nat) (ps:List PV):Nat->Nat->PV:=
 fun i' j'=>match Nat.beq i' i&&Nat.ble j j'&&Nat.blt j' (j+m) with | true=>ps.getD (j' - j) .bad | false=>f i' j'
def rowL (f:Nat->PV) (j m:Nat) (ps:List PV):Nat->PV:=
 fun j'=>match Nat.ble j j'&&Nat.blt j' (j+m) with | true=>ps.getD (j' - j) .bad | false=>f j'
theorem setL_same (f:Nat->Nat->PV) (i j m:Nat) (ps:List PV) (j':Nat):setL f i j m ps i j'=rowL (f i) j m ps j':=by
 unfold setL rowL
 rw [Nat.beq_refl,Bool.true_and]
def rangeL {α:Type} (f:Nat->α):Nat->Nat->List α
 | 0,_=>[]
 | n+1,i=>f i::rangeL f n (i+1)
theorem rangeL_get {α:Type} {f:Nat->α} {d:α}:∀ {n i j:Nat},j < n->(rangeL f n i).getD j d=f (i+j)
 | n+1,i,0,_=>rfl
 | n+1,i,j+1,h=>by
  have:=rangeL_get (f:=f) (d:=d) (n:=n) (i:=i+1) (j:=j) (by omega)
  simp only [rangeL,List.getD_cons_succ,this]
  congr 1; omega
def setR (R:Rows) (k i j m:Nat) (ps:List PV):Rows:=
 match R with
 | .dat c l=>match Nat.beq k (wid c) with
  | true=>match toDat c (rangeL (rowL ((Rows.dat c l).f i) j m ps) k 0) with
   | some a=>.dat c (l.set i a)
   | none=>.fn R.n (setL R.f i j m ps)
  | false=>.fn R.n (setL R.f i j m ps)
 | .fn _ _=>.fn R.n (setL R.f i j m ps)
theorem setL_ne {f:Nat->Nat->PV} {i j m i' j':Nat} {ps:List PV} (h:i'≠i):setL f i j m ps i' j'=f i' j':=by
 unfold setL
 cases hb:Nat.beq i' i with
 | true=>exact absurd (Nat.eq_of_beq_eq_true hb) h
 | false=>rfl
theorem setR_spec (R:Rows) (k i j m:Nat) (ps:List PV):(setR R k i j m ps).n=R.n/\∀ i' j',i' < R.n->j' < k->∀ v,PRel M (setL R.f i j m ps i' j') v->PRel M ((setR R k i j m ps).f i' j') v:=by
 have raw:(Rows.fn R.n (setL R.f i j m ps)).n=R.n/\∀ i' j',i' < R.n->j' < k->∀ v,PRel M (setL R.f i j m ps i' j') v->PRel M ((Rows.fn R.n (setL R.f i j m ps)).f i' j') v:=⟨rfl,fun _ _ _ _ _ h=>h⟩
 unfold setR
 split
 .rename_i c l
  split
  .rename_i hk
   have hk:=Nat.eq_of_beq_eq_true hk
   split
   .rename_i a ha
    obtain ⟨_,h4⟩:=toDat_spec (M:=M) ha
    refine ⟨List.length_set,fun i' j' hi hj v hv=>?_⟩
    simp only [Rows.n] at hi
    by_cases e:i'=i
    .subst e
     simp only [Rows.f]
     rw [List.getD_eq_getElem?_getD,List.getElem?_set_self hi]
     refine h4 j' (by omega) v ?_
     rw [rangeL_get hj,Nat.zero_add,<-setL_same]
     exact hv
    .rw [setL_ne e] at hv
     simp only [Rows.f] at hv ⊢
     rw [List.getD_eq_getElem?_getD,List.getElem?_set_ne (fun h=>e h.symm),<-List.getD_eq_getElem?_getD]
     exact hv
   .exact raw
  .exact raw
 .exact raw
def ecFields (l:List (Option Ec)):Option Ec:=
 match l with
 | []=>none
 | [x]=>x
 | x::r=>match x,ecFields r with
  | some a,some b=>some (.pair a b)
  | _,_=>none
def ecOf (P:Program):Nat->TypeId->Option Ec
 | 0,_=>none
 | n+1,t=>match P.underlying t with
  | some .bool=>some .bool
  | some (.int k)=>some (.int k)
  | some .string=>some .str
  | some (.slice e)=>match P.underlying e with
   | some (.int .u8)=>some .bytes
   | _=>(ecOf P n e).map .list
  | some (.struct fs)=>match fs.toList.reverse with
   | x::_=>match (match P.underlying x.type with | some (.slice e)=>Nat.beq e t | _=>false),fs.size with
    | true,8=>some .part
    | true,5=>some .node
    | true,_=>none
    | false,_=>ecFields (fs.toList.map fun f=>ecOf P n f.type)
   | []=>none
  | _=>none
end Go.Am
namespace Go.Am
open Go Go.RowKit
variable {P:Program} {γ:Nat->Option G} {M:Mem}
inductive ARels (γ:Nat->Option G) (M:Mem):List AV->List Value->Prop
 | nil:ARels γ M [] []
 | cons {x:AV} {v:Value} {xs:List AV} {vs:List Value} (h:ARel γ M x v) (t:ARels γ M xs vs):ARels γ M (x::xs) (v::vs)
theorem ARels.length {xs:List AV} {vs:List Value} (h:ARels γ M xs vs):vs.length=xs.length:=by
 induction h with
 | nil=>rfl
 | cons _ _ ih=>simp [ih]
theorem ARels.get {xs:List AV} {vs:List Value} (h:ARels γ M xs vs):∀ i,i < xs.length->ARel γ M (xs.getD i .any) (vs.getD i undef):=by
 induction h with
 | nil=>intro i hi; exact absurd hi (Nat.not_lt_zero _)
 | cons h _ ih=>
  intro i hi
  cases i with
  | zero=>exact h
  | succ i=>exact ih i (by simpa using hi)
theorem ARels.map {ρ:Operand->Value} {σ:Operand->AV} (h:∀ x,ARel γ M (σ x) (ρ x)):∀ l:List Operand,ARels γ M (l.map σ) (l.map ρ)
 | []=>.nil
 | x::l=>.cons (h x) (ARels.map h l)
theorem ARels.take {xs:List AV} {vs:List Value} (h:ARels γ M xs vs):∀ n,ARels γ M (xs.take n) (vs.take n):=by
 induction h with
 | nil=>intro n; simp; exact .nil
 | cons h _ ih=>intro n; cases n with
  | zero=>exact .nil
  | succ n=>exact .cons h (ih n)
theorem ARels.drop {xs:List AV} {vs:List Value} (h:ARels γ M xs vs):∀ n,ARels γ M (xs.drop n) (vs.drop n):=by
 induction h with
 | nil=>intro n; simp; exact .nil
 | cons h t ih=>intro n; cases n with
  | zero=>exact .cons h t
  | succ n=>exact ih n
theorem ARel.p_inv {x:PV} {v:Value} (h:ARel γ M (.p x) v):PRel M x v:=by cases h; assumption
theorem ARel.int_inv {k:IntKind} {n:Int} {v:Value} (h:ARel γ M (.p (.int k n)) v):v=.int k n/\k.has n:=h.p_inv.int_inv
theorem ARel.str_inv {l:List UInt8} {v:Value} (h:ARel γ M (.p (.str l)) v):v=.string ⟨l.toArray⟩/\l.length<=maxLen:=h.p_inv.str_inv
theorem ARel.bool_inv {b:Bool} {v:Value} (h:ARel γ M (.p (.bool b)) v):v=.bool b:=h.p_inv.bool_inv
theorem ARel.gd_inv {c:Bool} {x:AV} {v:Value} (h:ARel γ M (.gd c x) v) (hc:c=true):ARel γ M x v:=by cases h with | gd _ _ _ h _=>exact h hc
theorem bool?_some {b:Bool} {α:Type} {x y:α} (h:bool? b x=some y):b=true/\x=y:=by
 cases b
 .cases h
 .cases h; exact ⟨rfl,rfl⟩
theorem run_str_index {t:TypeId} (ht:isStrT P t=true) (l:List UInt8) (k:IntKind) (i:Int) (h0:0<=i) (h1:i < (l.length:Int)) (w:World):
 (Instr.index t (.string ⟨l.toArray⟩) (.int k i)).run P w=.ok (.int .u8 ((l.getD i.toNat 0).toNat:Int)) w:=by
 have hi:i.toNat < l.length:=by omega
 have e:(⟨l.toArray⟩:ByteArray)[i.toNat]?=some (l.getD i.toNat 0):=by
  rw [getElem?_pos (⟨l.toArray⟩:ByteArray) i.toNat (by simpa [ByteArray.size] using hi)]
  simp only [List.getD_eq_getElem?_getD,List.getElem?_eq_getElem hi,Option.getD_some]
  rfl
 simp only [Instr.index,asIntOf]
 simp [run_underlying (isStrT_spec ht),h0,e]
theorem has_nat_i64 {n:Nat} (h:n<=maxLen):IntKind.i64.has (n:Int):=has_i64 (by unfold maxLen at h; unfold i64ok; omega)
theorem extract_str (l:List UInt8) (a b:Nat) (hb:b<=l.length):(⟨l.toArray⟩:ByteArray).extract a b=⟨((l.take b).drop a).toArray⟩:=by
 apply ByteArray.ext
 simp only [ByteArray.data_extract,List.extract_toArray,List.extract_eq_take_drop,List.drop_take]
theorem run_bound {k:IntKind} {i:Int} {y:Nat} {c:BoundsCode} (h0:0<=i) (h1:i<=(y:Int)) (w:World):
 (Instr.sliceBound (.int k i) y c).run P w=.ok i.toNat w:=by
 simp [Instr.sliceBound,asIntOf,h0,h1]
theorem run_slice_str {t:TypeId} (ht:isStrT P t=true) (l:List UInt8) (lo hi:Option (IntKind×Int))
 (hlo:∀ k i,lo=some (k,i)->0<=i/\i<=(match hi with | some (_,j)=>j | none=>(l.length:Int)))
 (hhi:∀ k i,hi=some (k,i)->0<=i/\i<=(l.length:Int)) (w:World):
 (Instr.slice t (.string ⟨l.toArray⟩) (lo.map fun x=>.int x.1 x.2) (hi.map fun x=>.int x.1 x.2) none).run P w=
  .ok (.string ⟨((l.take (match hi with | some (_,j)=>j.toNat | none=>l.length)).drop (match lo with | some (_,i)=>i.toNat | none=>0)).toArray⟩) w:=by
 have hsz:(⟨l.toArray⟩:ByteArray).size=l.length:=by simp [ByteArray.size]
 have hu:=run_underlying (isStrT_spec ht)
 cases hi with
 | none=>
  cases lo with
  | none=>
   simp [Instr.slice,hu,Instr.sliceBounds]
  | some x=>
   obtain ⟨k,i⟩:=x
   have:=hlo k i rfl
   simp only [Instr.slice,Instr.sliceBounds,Option.map_some,Option.map_none]
   simp [hu,run_bound this.1 this.2,extract_str,hsz]
 | some y=>
  obtain ⟨k',j⟩:=y
  have hj:=hhi k' j rfl
  cases lo with
  | none=>
   simp only [Instr.slice,Instr.sliceBounds,Option.map_some,Option.map_none]
   simp [hu,run_bound hj.1 hj.2,hsz]
   rw [extract_str _ _ _ (by omega)]
   simp
  | some x=>
   obtain ⟨k,i⟩:=x
   have:=hlo k i rfl
   simp only [Instr.slice,Instr.sliceBounds,Option.map_some]
   have h2:i<=(j.toNat:Int):=by have:=this.2; simp at this; omega
   simp [hu,run_bound hj.1 hj.2,run_bound this.1 h2,hsz]
   rw [extract_str _ _ _ (by omega)]
theorem run_eqGuard_p {op:BinOp} {t:TypeId} {x y:Operand} {a b:Value} {p q:PV} (ha:PRel M p a) (_hb:PRel M q b)
 (h:∀ v,p≠.plain v) (w:World):(eqGuard op t x y a b).run P w=.ok () w:=by
 have h1:a≠.nilIface:=by
  cases ha <;> first
   | (intro e; cases e; done)
   | (exact absurd rfl (h _))
 have h2:∀ cs,a≠.agg cs:=by
  cases ha <;> first
   | (intro cs e; cases e; done)
   | (exact absurd rfl (h _))
 unfold eqGuard
 cases op <;> dsimp only <;> first
  | rfl
  | (simp only [Bool.not_true, Bool.false_eq_true, if_false]
     split
     .exact absurd rfl h1
     .exact absurd rfl (h2 _)
     .rfl)
theorem getD_take {α:Type} (l:List α) (n i:Nat) (d:α) (h:i < n):(l.take n).getD i d=l.getD i d:=by
 simp [List.getD_eq_getElem?_getD,h]
theorem getD_drop {α:Type} (l:List α) (n i:Nat) (d:α):(l.drop n).getD i d=l.getD (n+i) d:=by
 simp [List.getD_eq_getElem?_getD]
theorem apart_sound {t:TypeId} {cs:List AV} {vs:Array Value} {off:Nat} {r:AV} (h:apart P t cs off=some r)
 (hs:vs.size=cs.length) (hx:∀ i,i < cs.length->ARel γ M (cs.getD i .any) (vs.getD i undef)) (w:World):
 ∃ v,(part t vs off).run P w=.ok v w/\ARel γ M r v:=by
 unfold apart at h
 cases ha:isAggT P t with
 | none=>rw [ha] at h; cases h
 | some b=>
  cases hz:sizeT P t with
  | none=>rw [ha,hz] at h; cases b <;> cases h
  | some n=>
   rw [ha,hz] at h
   cases b with
   | true=>
    dsimp only at h
    split at h
    .rename_i hb
     cases h
     have hle:=Nat.le_of_ble_eq_true hb
     refine ⟨.agg (vs.extract off (off+n)),by simp [part,run_isAgg ha,run_sizeOf hz],.agg _ _ ?_ ?_⟩
     .simp; omega
     .intro i hi
      have hi':i < n:=by simp at hi; omega
      rw [getD_take _ _ _ _ hi',getD_drop]
      have:=hx (off+i) (by omega)
      have e:(vs.extract off (off+n)).getD i undef=vs.getD (off+i) undef:=by
       simp only [Array.getD_eq_getD_getElem?]
       rw [Array.getElem?_extract]
       rw [if_pos (by omega)]
      rw [e]; exact this
    .cases h
   | false=>
    dsimp only at h
    split at h
    .rename_i hb
     cases h
     have hlt:off < cs.length:=Nat.le_of_ble_eq_true hb
     have:=hx off hlt
     obtain ⟨u,hv,hu⟩:∃ u,vs[off]?=some u/\vs.getD off undef=u:=
      ⟨vs[off]'(by omega),Array.getElem?_eq_getElem (by omega),by rw [Array.getD_eq_getD_getElem?,Array.getElem?_eq_getElem (by omega)]; rfl⟩
     exact ⟨u,by simp [part,run_isAgg ha,hv],hu ▸ this⟩
    .cases h
theorem fieldOf_spec {t f:Nat} {fd:Field} (h:fieldOf P t f=some fd):∃ fs,P.underlying t=some (.struct fs)/\fs[f]?=some fd:=by
 unfold fieldOf at h
 split at h
 .exact ⟨_,by assumption,h⟩
 .cases h
theorem foldMin_sound:∀ (xs:List AV) (vs:List Value) (a n:Int),afoldMin a xs=some n->ARels γ M xs vs->IntKind.i64.has a->∀ w,
 (vs.foldlM Builtin.min2 (.int .i64 a)).run P w=.ok (.int .i64 n) w/\IntKind.i64.has n:=by
 intro xs
 induction xs with
 | nil=>intro vs a n h hx ha w; cases hx; cases h; exact ⟨rfl,ha⟩
 | cons x xs ih=>
  intro vs a n h hx ha w
  cases hx with
  | cons hv ht=>
   unfold afoldMin at h
   split at h
   .rename_i heq; cases heq
   .rename_i y r heq
    cases heq
    obtain ⟨rfl,hy⟩:=hv.int_inv
    have:=ih _ _ _ h ht (by split <;> assumption) w
    simp only [List.foldlM_cons]
    rw [Sem.run_bind]
    simp only [Builtin.min2,Sem.run_pure,Result.andThen_ok]
    exact this
   .cases h
theorem foldMax_sound:∀ (xs:List AV) (vs:List Value) (a n:Int),afoldMax a xs=some n->ARels γ M xs vs->IntKind.i64.has a->∀ w,
 (vs.foldlM Builtin.max2 (.int .i64 a)).run P w=.ok (.int .i64 n) w/\IntKind.i64.has n:=by
 intro xs
 induction xs with
 | nil=>intro vs a n h hx ha w; cases hx; cases h; exact ⟨rfl,ha⟩
 | cons x xs ih=>
  intro vs a n h hx ha w
  cases hx with
  | cons hv ht=>
   unfold afoldMax at h
   split at h
   .rename_i heq; cases heq
   .rename_i y r heq
    cases heq
    obtain ⟨rfl,hy⟩:=hv.int_inv
    have:=ih _ _ _ h ht (by split <;> assumption) w
    simp only [List.foldlM_cons]
    rw [Sem.run_bind]
    simp only [Builtin.max2,Sem.run_pure,Result.andThen_ok]
    exact this
   .cases h
end Go.Am
namespace Go.Am
open Go Go.RowKit
variable {P:Program} {γ:Nat->Option G} {M:Mem}
theorem abin_sound {op:BinOp} {x y:PV} {r:PV} {ok:Option Prop} (h:abin op x y=some (r,ok)) (hok:okP ok) {a b:Value}
 (ha:PRel M x a) (hb:PRel M y b) (t:TypeId) (hnb:∀ c,x≠.bool c) (w:World):∃ v,(binOp op t a b).run P w=.ok v w/\PRel M r v:=by
 unfold abin at h
 split at h
 .rename_i k m k' n
  obtain ⟨rfl,ha'⟩:=ha.int_inv
  obtain ⟨rfl,hb'⟩:=hb.int_inv
  split at h
  .cases h
   have:¬ n < 0:=by omega
   exact ⟨_,by simp [binOp,Op.shift,this],.int _ _ (wrap_has _ _)⟩
  .cases h
   have:¬ n < 0:=by omega
   exact ⟨_,by simp [binOp,Op.shift,this],.int _ _ (fdiv_has ha' _)⟩
  .split at h
   .rename_i hk
    cases kindEq_eq hk
    exact abinInt_sound h hok ha' hb' t w
   .cases h
 .obtain ⟨rfl,_⟩:=ha.str_inv
  obtain ⟨rfl,_⟩:=hb.str_inv
  exact abinStr_sound h hok t w
 .exact absurd rfl (hnb _)
 .cases h
theorem isBoolT_spec {t:TypeId} (h:isBoolT P t=true):P.underlying t=some .bool:=by
 unfold isBoolT at h; split at h
 .assumption
 .cases h
theorem abinBool_sound {op:BinOp} {p q:Bool} {r:PV} {ok:Option Prop} (h:abin op (.bool p) (.bool q)=some (r,ok)) (t:TypeId)
 (ht:isBoolT P t=true) (w:World):∃ v,(binOp op t (.bool p) (.bool q)).run P w=.ok v w/\PRel M r v:=by
 have hu:=isBoolT_spec ht
 cases op <;> simp only [abin,reduceCtorEq,Option.some.injEq] at h <;> cases h
 .exact ⟨.bool (p==q),by simp [binOp,run_bool_eq _ _ _ _ hu],.bool _⟩
 .exact ⟨.bool (p != q),by simp [binOp,run_bool_eq _ _ _ _ hu] <;> cases p <;> cases q <;> rfl,.bool _⟩
theorem aconv_sound {d s:TypeId} {x r:PV} (h:aconv P d x=some r) (hd:∃ e,P.underlying s=some e) {a:Value} (ha:PRel M x a) (w:World):
 ∃ v,(convert s d a).run P w=.ok v w/\PRel M r v:=by
 obtain ⟨e,he⟩:=hd
 unfold aconv at h
 split at h
 .rename_i k s' n hu
  obtain ⟨rfl,hn⟩:=ha.int_inv
  split at h
  .rename_i hf
   cases h
   have:=fits_has hf hn
   exact ⟨.int k n,by simp [convert,run_underlying he,run_underlying hu,Conv.intToInt,wrap_of_has this],.int _ _ this⟩
  .cases h
   exact ⟨_,by simp [convert,run_underlying he,run_underlying hu,Conv.intToInt],.int _ _ (wrap_has _ _)⟩
 .rename_i l hu
  cases h
  obtain ⟨rfl,hl⟩:=ha.str_inv
  refine ⟨.string ⟨l.toArray⟩,?_,.str _ hl⟩
  simp [convert,run_underlying he,run_underlying hu]
 .cases h
theorem knownT_spec {t:TypeId} (h:knownT P t=true):∃ e,P.underlying t=some e:=Option.isSome_iff_exists.1 h
theorem map_some {α β:Type} {x:Option α} {f:α->β} {y:β} (h:x.map f=some y):∃ a,x=some a/\f a=y:=by
 cases x with
 | none=>cases h
 | some a=>exact ⟨a,rfl,by injection h⟩
theorem evAnd_sound {c:Bool} {x r:AV} {ok:Option Prop} (h:evAnd c x=some (r,ok)) (hok:okP ok) {a b:Value} (ha:ARel γ M x a) (hb:b=.bool false):
 ARel γ M r (if c then a else b):=by
 subst hb
 unfold evAnd at h
 split at h
 .cases h
  cases c
  .exact .p _ _ (.bool false)
  .have:=ha.gd_inv (hok rfl)
   rw [this.bool_inv]; exact .p _ _ (.bool _)
 .cases h
  rw [ha.bool_inv]
  cases c <;> exact .p _ _ (.bool _)
 .cases h
theorem evOr_sound {c:Bool} {x r:AV} {ok:Option Prop} (h:evOr c x=some (r,ok)) (hok:okP ok) {a b:Value} (ha:ARel γ M x a) (hb:b=.bool true):
 ARel γ M r (if c then b else a):=by
 subst hb
 unfold evOr at h
 split at h
 .cases h
  cases c
  .have:=ha.gd_inv (hok rfl)
   rw [this.bool_inv]; exact .p _ _ (.bool _)
  .exact .p _ _ (.bool true)
 .cases h
  rw [ha.bool_inv]
  cases c <;> exact .p _ _ (.bool _)
 .cases h
theorem isConstBool_spec {x:Operand} {b:Bool} (h:isConstBool x=some b):x=.const (.bool b):=by
 unfold isConstBool at h
 split at h
 .cases h; rfl
 .cases h
def Lits (ρ:Operand->Value):Prop:=∀ v,ρ (.const v)=v
theorem shiftAddr_sound {k:Nat} {x r:AV} (h:shiftAddr k x=some r) {v:Value} (hx:ARel γ M x v):
 ∃ b off,v=.pointer (some ⟨b,off,none⟩)/\ARel γ M r (.pointer (some ⟨b,off+k,none⟩)):=by
 unfold shiftAddr at h
 split at h
 .cases h
  cases hx with
  | ref id off b hb=>exact ⟨_,_,rfl,.ref _ _ _ hb⟩
 .split at h
  .rename_i hk
   cases h
   have hk:=Nat.le_of_ble_eq_true hk
   cases hx.p_inv with
   | box n f b off g hM hf=>
    refine ⟨b,off,rfl,.p _ _ (.box _ _ _ _ (fun j=>g (k+j)) (fun j hj=>?_) (fun j hj=>hf _ (by omega)))⟩
    have:=hM (k+j) (by omega)
    rw [<-Nat.add_assoc] at this; exact this
  .cases h
 .rename_i id i off
  cases h
  cases hx with
  | aptr _ _ _ g k' n cap hb=>exact ⟨g,_,rfl,by have:=ARel.aptr (M:=M) id i (off+k) g k' n cap hb; rw [<-Nat.add_assoc] at this; exact this⟩
 .cases h
theorem addr_add (b off k:Nat):(⟨b,off,none⟩:Addr).add k=⟨b,off+k,none⟩:=by
 unfold Addr.add
 split
 .simp_all
 .rfl
theorem elemSize_spec {t:TypeId} {k:Nat} (h:elemSize P t=some k):∃ e,P.underlying t=some (.slice e)/\sizeT P e=some k:=by
 unfold elemSize at h
 split at h
 .rename_i e he; exact ⟨e,sliceE_spec he,h⟩
 .cases h
theorem run_indexAt_slice {t:TypeId} {k:Nat} (h:elemSize P t=some k) (b off n cap:Nat) (kk:IntKind) (i:Int) (h0:0<=i) (h1:i < (n:Int)) (w:World):
 (Instr.indexAt t (.slice (some ⟨b,off,none⟩) n cap) (.int kk i)).run P w=.ok (.pointer (some ⟨b,off+i.toNat * k,none⟩)) w:=by
 obtain ⟨e,hu,hs⟩:=elemSize_spec h
 simp [Instr.indexAt,asIntOf,run_underlying hu,h0,h1,run_sizeOf hs,addr_add]
theorem bytes_inv {l:List UInt8} {v:Value} (h:PRel M (.bytes l) v):
 (l=[]/\v=.slice none 0 0)\/∃ b off cap,v=.slice (some ⟨b,off,none⟩) l.length cap/\l.length<=maxLen/\l.length<=cap/\∀ i c,l[i]?=some c->M b (off+i)=some (byteV c):=by
 cases h with
 | bytesNil=>exact .inl ⟨rfl,rfl⟩
 | bytes l b off cap hm hc h=>exact .inr ⟨b,off,cap,rfl,hm,hc,h⟩
theorem run_sliceAt_str {t:TypeId} (ht:isStrT P t=true) (x:Value) (lo hi mx:Option Value) (w:World):
 (Instr.sliceAt t x lo hi mx).run P w=(Instr.slice t x lo hi mx).run P w:=by
 simp [Instr.sliceAt,run_underlying (isStrT_spec ht)]
theorem agg_inv' {cs:List AV} {v:Value} (h:ARel γ M (.agg cs) v):∃ vs,v=.agg vs/\vs.size=cs.length/\∀ i,i < cs.length->ARel γ M (cs.getD i .any) (vs.getD i undef):=by
 cases h with | agg _ vs hs h=>exact ⟨vs,rfl,hs,h⟩
theorem eqCell_sound (d:Nat) {t:TypeId} {x y:AV} {c:Bool} (h:eqCell P t x y=some c) {a b:Value} (ha:ARel γ M x a) (hb:ARel γ M y b) (w:World):(Op.equalIn (d+1) t a b).run P w=.ok c w:=by
 unfold eqCell at h
 split at h
 .split at h
  .rename_i ht
   cases h
   have hu:P.underlying t=some .string:=by unfold isStrTy at ht; split at ht; assumption; cases ht
   rw [ha.str_inv.1,hb.str_inv.1,run_equalIn_string w d t _ _ hu]
   simp [ByteArray.toList_eq]
  .cases h
 .split at h
  .rename_i _ _ hk hu
   cases h
   have hk:=kindEq_eq hk
   subst hk
   rw [ha.int_inv.1,hb.int_inv.1]
   exact run_equalIn_int w d t _ _ _ _ hu
  .cases h
 .split at h
  .rename_i ht
   cases h
   rw [ha.bool_inv,hb.bool_inv]
   exact run_equalIn_bool' w d t _ _ (isBoolT_spec ht)
  .cases h
 .cases h
theorem eqFlds_sound (d:Nat) {xs ys:List AV} {vx vy:Array Value} (hx:ARel γ M (.agg xs) (.agg vx)) (hy:ARel γ M (.agg ys) (.agg vy)) (w:World):∀ {fs:List Field} {c:Bool},eqFlds P xs ys fs=some c->(Op.eqFields (d+1) vx vy fs).run P w=.ok c w
 | [],c,h=>by cases h; rfl
 | f::fs,c,h=>by
  obtain ⟨vx',ex,hsx,hrx⟩:=agg_inv' hx
  obtain ⟨vy',ey,hsy,hry⟩:=agg_inv' hy
  cases ex; cases ey
  simp only [eqFlds] at h
  split at h
  .rename_i hn
   split at h
   .rename_i a b h1 h2
    split at h
    .rename_i c1 hc
     split at h
     .rename_i r hr
      cases h
      obtain ⟨u,hu,hru⟩:=apart_sound h1 hsx hrx w
      obtain ⟨v,hv,hrv⟩:=apart_sound h2 hsy hry w
      have hne:f.name≠ "_":=by simpa using hn
      simp only [Op.eqFields]
      rw [if_pos hne]
      simp only [Sem.run_bind,hu,hv,Result.andThen_ok,eqCell_sound d hc hru hrv w]
      cases c1 with
      | true=>simpa using eqFlds_sound d hx hy w hr
      | false=>simp [Sem.run_pure]
     .cases h
    .cases h
   .cases h
  .cases h
theorem evBin_sound {op:BinOp} {t:TypeId} {u u' r:AV} {ok:Option Prop} (h:evBin P op t [u,u']=some (r,ok)) (hok:okP ok) {a b:Value}
 (ha:ARel γ M u a) (hb:ARel γ M u' b) (x y:Operand) (w:World):
 ∃ v,(do eqGuard op t x y a b; binOp op t a b:Sem Value).run P w=.ok v w/\ARel γ M r v:=by
 cases u with
 | p p=>
  cases u' with
  | p q=>
   dsimp only [evBin] at h
   cases hbp:isBoolP p with
   | true=>
    rw [hbp] at h
    dsimp only at h
    cases ht:isBoolT P t with
    | false=>rw [ht] at h; cases h
    | true=>
     rw [ht] at h
     obtain ⟨⟨r',ok'⟩,hab,hr⟩:=map_some h
     cases hr
     cases p <;> simp only [isBoolP,reduceCtorEq] at hbp
     rename_i p
     cases q with
     | bool q=>
      obtain ⟨v,hv,hrel⟩:=abinBool_sound (P:=P) (M:=M) hab t ht w
      have e1:=ha.bool_inv
      have e2:=hb.bool_inv
      have hg:=run_eqGuard_p (P:=P) (op:=op) (t:=t) (x:=x) (y:=y) ha.p_inv hb.p_inv (by intro v e; cases e) w
      rw [e1,e2] at hg
      exact ⟨v,by rw [e1,e2,Sem.run_bind,hg]; exact hv,.p _ _ hrel⟩
     | _=>simp [abin] at hab
   | false=>
    rw [hbp] at h
    obtain ⟨⟨r',ok'⟩,hab,hr⟩:=map_some h
    cases hr
    obtain ⟨v,hv,hrel⟩:=abin_sound (P:=P) (M:=M) hab hok ha.p_inv hb.p_inv t (by intro c e; subst e; cases hbp) w
    have hg:=run_eqGuard_p (P:=P) (op:=op) (t:=t) (x:=x) (y:=y) ha.p_inv hb.p_inv (by intro v e; subst e; simp [abin] at hab) w
    exact ⟨v,by rw [Sem.run_bind,hg]; exact hv,.p _ _ hrel⟩
  | _=>cases h
 | agg xs=>
  cases u' with
  | agg ys=>
   obtain ⟨vx,rfl,hsx,hrx⟩:=agg_inv' ha
   obtain ⟨vy,rfl,hsy,hry⟩:=agg_inv' hb
   dsimp only [evBin] at h
   split at h
   .rename_i ht
    unfold structEqT at ht
    rw [Bool.and_eq_true,Bool.and_eq_true,Bool.not_eq_true',Bool.not_eq_true'] at ht
    obtain ⟨h1,h2,h3⟩:=ht
    have hu:P.underlying t=some (.struct (P.fieldsOf t)):=by
     unfold Program.fieldsOf
     split at h1
     .rename_i fs he; rw [he]
     .cases h1
    split at h
    .rename_i c hc
     have hg:=run_eqGuard_agg (P:=P) w op t x y vx vy h3
     have he:=(run_equalIn_agg (P:=P) w 9999 t vx vy hu h2).trans (eqFlds_sound 9998 ha hb w hc)
     split at h
     .cases h
      refine ⟨.bool c,?_,.p _ _ (.bool _)⟩
      rw [Sem.run_bind,hg,Result.andThen_ok,run_eql_struct,he]; rfl
     .cases h
      refine ⟨.bool (!c),?_,.p _ _ (.bool _)⟩
      rw [Sem.run_bind,hg,Result.andThen_ok,run_neq_struct,he]; rfl
     .cases h
    .cases h
   .cases h
  | _=>cases h
 | _=>cases h
theorem evSlice_sound {t:TypeId} {lo hi:Option Operand} {x:Operand} {ρ:Operand->Value} {xs:List AV} {r:AV} {ok:Option Prop}
 (h:evSlice P t lo.isSome hi.isSome xs=some (r,ok)) (hok:okP ok)
 (hx:ARels γ M xs (ρ x::((lo.toList++hi.toList).map ρ))) (w:World):
 ∃ v,(Instr.sliceAt t (ρ x) (lo.map ρ) (hi.map ρ) none).run P w=.ok v w/\ARel γ M r v:=by
 unfold evSlice at h
 split at h
 .rename_i l
  cases lo <;> cases hi <;> dsimp only [Option.isSome] at h <;> first | (cases h; done) | skip
  cases hx with
  | cons ha _=>
   obtain ⟨ht,he⟩:=bool?_some h
   cases he
   obtain ⟨e1,hm⟩:=ha.str_inv
   rw [run_sliceAt_str ht,e1]
   have:=run_slice_str (P:=P) ht l none none (by simp) (by simp) w
   simp only [Option.map_none,List.take_length,List.drop_zero] at this
   exact ⟨_,this,.p _ _ (.str _ hm)⟩
 .rename_i l kk i
  cases lo <;> cases hi <;> dsimp only [Option.isSome] at h <;> first | (cases h; done) | skip
  .rename_i j
   cases hx with
   | cons ha hx=>cases hx with
    | cons hb _=>
     obtain ⟨ht,he⟩:=bool?_some h
     cases he
     obtain ⟨e1,hm⟩:=ha.str_inv
     have e2:=hb.int_inv.1
     rw [run_sliceAt_str ht,e1]
     have:=run_slice_str (P:=P) ht l none (some (kk,i)) (by simp) (by intro k i he; cases he; exact hok) w
     simp only [Option.map_none,Option.map_some,List.drop_zero] at this ⊢
     rw [e2]
     refine ⟨_,this,.p _ _ (.str _ ?_)⟩
     simp; omega
  .rename_i j
   cases hx with
   | cons ha hx=>cases hx with
    | cons hb _=>
     obtain ⟨ht,he⟩:=bool?_some h
     cases he
     obtain ⟨e1,hm⟩:=ha.str_inv
     have e2:=hb.int_inv.1
     rw [run_sliceAt_str ht,e1]
     have:=run_slice_str (P:=P) ht l (some (kk,i)) none (by intro k i he; cases he; exact hok) (by simp) w
     simp only [Option.map_none,Option.map_some,List.take_length] at this ⊢
     rw [e2]
     refine ⟨_,this,.p _ _ (.str _ ?_)⟩
     simp; omega
 .rename_i l k1 i k2 j
  cases lo <;> cases hi <;> dsimp only [Option.isSome] at h <;> first | (cases h; done) | skip
  cases hx with
  | cons ha hx=>cases hx with
   | cons hb hx=>cases hx with
    | cons hc _=>
     obtain ⟨ht,he⟩:=bool?_some h
     unfold aslice at he
     cases he
     obtain ⟨e1,hm⟩:=ha.str_inv
     have e2:=hb.int_inv.1
     have e3:=hc.int_inv.1
     rw [run_sliceAt_str ht,e1]
     have:=run_slice_str (P:=P) ht l (some (k1,i)) (some (k2,j)) (by intro k i he; cases he; exact ⟨hok.1,hok.2.1⟩) (by intro k i he; cases he; exact ⟨by omega,hok.2.2⟩) w
     simp only [Option.map_some] at this ⊢
     rw [e2,e3]
     refine ⟨_,this,.p _ _ (.str _ ?_)⟩
     simp; omega
 .rename_i k a l kk i
  cases he:elemSize P t with
  | none=>rw [he] at h; cases lo <;> cases hi <;> cases h
  | some k'=>
   rw [he] at h
   cases lo <;> cases hi <;> dsimp only [Option.isSome] at h <;> first | (cases h; done) | skip
   rename_i j
   cases hx with
   | cons ha hx=>cases hx with
    | cons hb _=>
     obtain ⟨hk,hh⟩:=bool?_some h
     cases hh
     have hk:k=k':=by simpa using hk
     subst hk
     have e2:=hb.int_inv.1
     obtain ⟨h0,h1⟩:0<=i/\i<=(l.length:Int):=hok
     obtain ⟨e,hu,hs⟩:=elemSize_spec he
     have hel:P.elem t=e:=by simp [Program.elem,hu]
     obtain ⟨m,rfl⟩:=Int.eq_ofNat_of_zero_le h0
     have hm:m<=l.length:=by omega
     have hrun:∀ (a':Option Addr) (cap:Nat),ρ x=.slice a' l.length cap->
      (Instr.sliceAt t (ρ x) ((some j).map ρ) ((none:Option Operand).map ρ) none).run P w=.ok (sliced a' m l.length cap k) w:=by
      intro a' cap e1
      have hs2:=run_slice_l (P:=P) (w:=w) t a' l.length cap (by rw [hel]; exact hu) kk (m:Int) (by omega) (by omega)
      have h3:=run_sliceAt_slice (P:=P) (w:=w) t (ρ x) (some (ρ j)) none none (by rw [hel]; exact hu)
      rw [e1,e2] at h3
      simp only [Option.map_none,Option.map_some,e1,e2]
      rw [h3,hs2,hel,run_sizeOf hs]
      rfl
     have hp:=ha.p_inv
     generalize hv:ρ x=v at hp hrun
     cases hp with
     | listNil _ _ hn=>
      have hn:l.length=0:=hn
      have:=hrun none 0 (by rw [hn])
      refine ⟨_,this,.p _ _ ?_⟩
      have hm0:m=0:=by omega
      subst hm0
      rw [show sliced none 0 l.length 0 k=.slice none 0 0 by simp [sliced,hn]]
      exact .listNil _ _ (by show (l.drop _).length=0; simp [hn])
     | list _ _ b off cap g hmx hc hM hR=>
      have:=hrun (some ⟨b,off,none⟩) cap rfl
      refine ⟨_,this,.p _ _ ?_⟩
      have hlen:(Rows.dat a (l.drop m)).n=l.length - m:=by show (l.drop m).length=_; simp
      have hc':l.length<=cap:=hc
      have hmx':l.length<=maxLen:=hmx
      show PRel M (.list k (.dat a (l.drop m))) _
      have key:∀ off',(cap=m\/off'=off+m * k)->PRel M (.list k (.dat a (l.drop m))) (.slice (some ⟨b,off',none⟩) (l.length - m) (cap - m)):=by
       intro off' ho
       rw [<-hlen]
       refine .list k _ b off' (cap - m) (fun p q=>g (m+p) q) (by rw [hlen]; omega) (by rw [hlen]; omega) ?_ ?_
       .intro p q hp hq
        rw [hlen] at hp
        rcases ho with ho | rfl
        .omega
        .have:=hM (m+p) q (by show _ < l.length; omega) hq
         rw [show off+m * k+p * k+q=off+(m+p) * k+q by rw [Nat.add_mul]; omega]
         exact this
       .intro p q hp hq
        rw [hlen] at hp
        have:=hR (m+p) q (by show _ < l.length; omega) hq
        have e3:(Rows.dat a (l.drop m)).f p q=(Rows.dat a l).f (m+p) q:=by
         show cell a ((l.drop m).getD p (dfl a)) q=cell a (l.getD (m+p) (dfl a)) q
         simp [List.getD_eq_getElem?_getD,List.getElem?_drop]
        rw [e3]; exact this
      unfold sliced
      by_cases hcm:cap=m
      .rw [if_pos hcm]; exact key _ (.inl hcm)
      .rw [if_neg hcm]
       simp only [Option.map_some,addr_add]
       exact key _ (.inr rfl)
 .cases h
theorem ARel.tup_inv {cs:List AV} {v:Value} (h:ARel γ M (.tup cs) v):∃ vs:Array Value,v=.tuple vs/\vs.size=cs.length/\∀ i,i < cs.length->ARel γ M (cs.getD i .any) (vs.getD i undef):=by
 cases h with | tup cs vs hs h=>exact ⟨vs,rfl,hs,h⟩
theorem ARel.agg_inv {cs:List AV} {v:Value} (h:ARel γ M (.agg cs) v):∃ vs:Array Value,v=.agg vs/\vs.size=cs.length/\∀ i,i < cs.length->ARel γ M (cs.getD i .any) (vs.getD i undef):=by
 cases h with | agg cs vs hs h=>exact ⟨vs,rfl,hs,h⟩
theorem evP_sound (o:Oper) (ρ:Operand->Value) (hl:Lits ρ) {xs:List AV} {r:AV} {ok:Option Prop} (h:evP P o.op xs=some (r,ok)) (hok:okP ok)
 (hx:ARels γ M xs (o.op.operands.toList.map ρ)) (w:World):∃ v,(execOp ρ o).run P w=.ok (.value v) w/\ARel γ M r v:=by
 obtain ⟨dst,op,type,pos,after,guard⟩:=o
 dsimp only at hx h
 cases op <;> simp only [evP,reduceCtorEq] at h <;> simp only [Op.operands,List.map_cons,List.map_nil] at hx
 case move x=>
  unfold ev1 at h; split at h
  .cases h; cases hx with | cons h1 _=>exact ⟨_,by simp [execOp],h1⟩
  .cases h
 case assign x=>
  unfold ev1 at h; split at h
  .cases h; cases hx with | cons h1 _=>exact ⟨_,by simp [execOp],h1⟩
  .cases h
 case pick c x y=>
  unfold evPick at h
  split at h
  .cases hx with
   | cons hc hx=>cases hx with
    | cons ha hx=>cases hx with
     | cons hb _=>
      have hc:=hc.bool_inv
      have hrun:∀ cb,ρ c=.bool cb->(execOp ρ ⟨dst,.pick c x y,type,pos,after,guard⟩).run P w=.ok (.value (if cb then ρ x else ρ y)) w:=fun cb hcb=>by
       simp [execOp,hcb,asBool]
      split at h
      .rename_i hy
       have:=isConstBool_spec hy
       subst this
       exact ⟨_,hrun _ hc,evAnd_sound h hok ha (hl _)⟩
      .split at h
       .rename_i hy
        have:=isConstBool_spec hy
        subst this
        exact ⟨_,hrun _ hc,evOr_sound h hok hb (hl _)⟩
       .cases h
  .cases h
 case binOp op t x y yt=>
  cases hx with
  | cons ha hx=>cases hx with
   | cons hb hx=>cases hx with
    | nil=>
     obtain ⟨v,hv,hrel⟩:=evBin_sound (P:=P) h hok ha hb x y w
     exact ⟨v,by simp only [execOp]; rw [Sem.run_bind,hv]; rfl,hrel⟩
 case unOp op t x=>
  unfold evUn at h
  split at h
  .cases hx with
   | cons ha _=>
    have e:=ha.bool_inv
    cases op <;> dsimp only at h <;> first
     | (cases h; done)
     | (cases h; exact ⟨_,by simp [execOp,Op.unary,e],.p _ _ (.bool _)⟩)
  .cases hx with
   | cons ha _=>
    have e:=ha.int_inv.1
    cases op <;> dsimp only at h <;> first
     | (cases h; done)
     | (cases h; exact ⟨_,by simp only [execOp,Op.unary,e,Op.intArith]; rfl,.p _ _ (arith_rel hok)⟩)
  .cases h
 case convert s d x=>
  unfold evConv at h
  split at h
  .cases hx with
   | cons ha _=>
    split at h
    .rename_i hk
     obtain ⟨r',hab,hr⟩:=map_some h
     cases hr
     obtain ⟨v,hv,hrel⟩:=aconv_sound (P:=P) (M:=M) hab (knownT_spec hk) ha.p_inv w
     exact ⟨v,by simp [execOp,hv],.p _ _ hrel⟩
    .cases h
  .cases h
 case index t x i=>
  unfold evIndex at h
  split at h
  .cases hx with
   | cons ha hx=>cases hx with
    | cons hb _=>
     obtain ⟨ht,he⟩:=bool?_some h
     cases he
     have e1:=ha.str_inv.1
     have e2:=hb.int_inv.1
     exact ⟨_,by simp [execOp,e1,e2,run_str_index ht _ _ _ hok.1 hok.2],.p _ _ (.int _ _ (has_u8 _))⟩
  .cases h
 case slice t x lo hi mx=>
  cases mx with
  | some m=>cases h
  | none=>
   dsimp only at h
   have hx':ARels γ M xs (ρ x::((lo.toList++hi.toList).map ρ)):=by
    cases lo <;> cases hi <;> simpa using hx
   obtain ⟨v,hv,hrel⟩:=evSlice_sound (P:=P) h hok hx' w
   exact ⟨v,by simp [execOp,hv],hrel⟩
 case extract x i=>
  unfold evExtract at h
  split at h
  .cases hx with
   | cons ha _=>
    split at h
    .rename_i hb
     have hb:i < _:=Nat.le_of_ble_eq_true hb
     cases h
     obtain ⟨vs,hv,hs,hr⟩:=ha.tup_inv
     obtain ⟨u,hu1,hu2⟩:∃ u,vs[i]?=some u/\vs.getD i undef=u:=
      ⟨vs[i]'(by omega),Array.getElem?_eq_getElem (by omega),by rw [Array.getD_eq_getD_getElem?,Array.getElem?_eq_getElem (by omega)]; rfl⟩
     exact ⟨u,by simp [execOp,Instr.extract,hv,hu1],hu2 ▸ hr i hb⟩
    .cases h
  .cases h
 case field t x f=>
  unfold evField at h
  split at h
  .cases hx with
   | cons ha _=>
    split at h
    .rename_i fd hfd
     obtain ⟨r',hab,hr⟩:=map_some h
     cases hr
     obtain ⟨fs,hu,hf⟩:=fieldOf_spec hfd
     obtain ⟨vs,hv,hs,hr⟩:=agg_inv' ha
     obtain ⟨v,hp,hrel⟩:=apart_sound (P:=P) hab hs hr w
     exact ⟨v,by simp [execOp,Instr.field,run_underlying hu,hf,hv,asAgg,hp],hrel⟩
    .cases h
  .cases h
 case fieldAddr t x f=>
  unfold evFieldAddr at h
  split at h
  .cases hx with
   | cons ha _=>
    split at h
    .rename_i fd hfd
     split at h
     .rename_i n hn
      obtain ⟨r',hab,hr⟩:=map_some h
      cases hr
      obtain ⟨fs,hu,hf⟩:=fieldOf_spec hfd
      obtain ⟨b,off,hv,hrel⟩:=shiftAddr_sound hab ha
      exact ⟨_,by simp [execOp,Instr.fieldAt,run_underlying hu,hf,hv,Instr.sureAddr,fieldPlace,run_sizeOf hn,addr_add],hrel⟩
     .cases h
    .cases h
  .cases h
 case indexAddr t x i=>
  unfold evIndexAddr at h
  split at h
  .rename_i k R kk j
   cases hx with
   | cons ha hx=>cases hx with
    | cons hb _=>
     split at h
     .rename_i k' hk'
      obtain ⟨hbq,he⟩:=bool?_some h
      cases he
      have hkk:=Nat.eq_of_beq_eq_true hbq
      subst hkk
      have e2:=hb.int_inv.1
      generalize hv:ρ x=vx at ha
      cases ha.p_inv with
      | listNil k R h0=>exact absurd hok (by omega)
      | list k R b off cap g hm hc hM hf=>
       exact ⟨.pointer (some ⟨b,off+j.toNat * k,none⟩),by simp [execOp,hv,e2,run_indexAt_slice hk' _ _ _ _ _ _ hok.1 hok.2],
        .p _ _ (.box _ _ _ _ (fun q=>g _ q) (fun q hq=>hM _ q (by omega) hq) (fun q hq=>hf _ q (by omega) hq))⟩
     .cases h
  .rename_i l kk j
   cases hx with
   | cons ha hx=>cases hx with
    | cons hb _=>
     split at h
     .rename_i k' hk'
      obtain ⟨hbq,he⟩:=bool?_some h
      cases he
      have hkk:=Nat.eq_of_beq_eq_true hbq
      subst hkk
      have e2:=hb.int_inv.1
      rcases bytes_inv ha.p_inv with ⟨rfl,_⟩ | ⟨b,off,cap,hv,hm,hc,hM⟩
      .exact (by have:=hok; simp only [List.length_nil] at this; omega:False).elim
      .have hlt:j.toNat < l.length:=by omega
       refine ⟨.pointer (some ⟨b,off+j.toNat * 1,none⟩),by simp only [execOp,hv,e2,Sem.run_bind,run_indexAt_slice hk' _ _ _ _ _ _ hok.1 hok.2]; rfl,
        .p _ _ (.box _ _ _ _ (fun _=>byteV (l.getD j.toNat 0)) (fun q hq=>?_) (fun q hq=>.int _ _ (has_u8 _)))⟩
       have hj0:q=0:=by omega
       subst hj0
       have:=hM _ _ (List.getElem?_eq_getElem hlt)
       simp only [Nat.mul_one,Nat.add_zero]
       rw [this,List.getD_eq_getElem?_getD,List.getElem?_eq_getElem hlt]
       rfl
     .cases h
  .cases h
 case makeFunc fn a b=>
  cases h
  have hx':ARels γ M xs ((a.toList++b.toList).map ρ):=by simpa using hx
  have h1:=hx'.take a.size
  have h2:=hx'.drop a.size
  have e1:((a.toList++b.toList).map ρ).take a.size=a.toList.map ρ:=by rw [List.map_append,List.take_left']; simp
  have e2:((a.toList++b.toList).map ρ).drop a.size=b.toList.map ρ:=by rw [List.map_append,List.drop_left']; simp
  rw [e1] at h1
  rw [e2] at h2
  refine ⟨.func fn (a.map ρ) (b.map ρ),by simp [execOp,Instr.makeFunc],.clo _ _ _ _ _ ?_ ?_ ?_ ?_⟩
  .have:=h1.length; simpa using this
  .have:=h2.length; simpa using this
  .intro i hi
   have:=h1.get i hi
   simpa [Array.getD_eq_getD_getElem?,List.getD_eq_getElem?_getD] using this
  .intro i hi
   have:=h2.get i hi
   simpa [Array.getD_eq_getD_getElem?,List.getD_eq_getElem?_getD] using this
 case nilCheck x=>
  unfold evNilCheck at h
  split at h
  .cases h
   cases hx with
   | cons ha _=>
    generalize hv:ρ x=v at ha
    cases ha with
    | ref id off b hb=>exact ⟨_,by simp [execOp,hv],.ref _ _ _ hb⟩
  .cases h
   cases hx with
   | cons ha _=>
    generalize hv:ρ x=v at ha
    cases ha.p_inv with
    | box n f b off g hM hf=>exact ⟨_,by simp [execOp,hv],.p _ _ (.box _ _ _ _ _ hM hf)⟩
  .cases h
 case call c=>
  obtain ⟨callee,args,ts⟩:=c
  cases callee with
  | value f=>cases h
  | invoke r m=>cases h
  | builtin b=>
   dsimp only [evCallP] at h
   have hx':ARels γ M xs (args.toList.map ρ):=by simpa [Call.operands] using hx
   have hrun:∀ v,(builtin b ts type (args.map fun | .const _=>true | _=>false) (args.map ρ)).run P w=.ok (.value v) w->
    (execOp ρ ⟨dst,.call ⟨.builtin b,args,ts⟩,type,pos,after,guard⟩).run P w=.ok (.value v) w:=fun v hv=>by
    simp only [execOp,resolve,Sem.run_bind,Sem.run_pure,Result.andThen_ok,invoke]
    exact hv
   unfold evBuiltin at h
   cases args with
   | mk al=>
   dsimp only at hx'
   cases b <;> dsimp only at h <;> first | (cases h; done) | skip
   case len=>
    cases hts:ts[0]? with
    | none=>rw [hts] at h; cases h
    | some t=>
     rw [hts] at h
     dsimp only at h
     generalize hvs:al.map ρ=vs at hx'
     have hal:(List.toArray al).map ρ=vs.toArray:=by rw [<-hvs]; simp
     rw [hal] at hrun
     clear hvs hal
     cases hx' with
     | nil=>cases h
     | cons ha ht=>
      cases ht with
      | cons _ _=>simp [evLen] at h
      | nil=>
       rename_i u a
       cases u with
       | p y=>
        cases y with
        | str l=>
         obtain ⟨hk,he⟩:=bool?_some h; cases he
         obtain ⟨e1,hm⟩:=ha.str_inv
         have hsz:(⟨l.toArray⟩:ByteArray).size=l.length:=rfl
         exact ⟨.int .i64 (l.length:Int),hrun _ (by simp only [builtin,Builtin.len_,List.getElem?_toArray,List.getElem?_cons_zero,hts,e1,Sem.run_bind,run_underlying (isStrT_spec hk),Result.andThen_ok,goInt,hsz]; rfl),.p _ _ (.int _ _ (has_nat_i64 hm))⟩
        | bytes l=>
         obtain ⟨hk,he⟩:=bool?_some h; cases he
         obtain ⟨e,hu⟩:=isSliceT_spec hk
         rcases bytes_inv ha.p_inv with ⟨rfl,rfl⟩ | ⟨b,off,cap,rfl,hm,_,_⟩
         .exact ⟨_,hrun _ (by simp [builtin,Builtin.len_,hts,run_underlying hu,goInt]),.p _ _ (.int _ _ (has_nat_i64 (n:=0) (by simp [maxLen])))⟩
         .exact ⟨_,hrun _ (by simp [builtin,Builtin.len_,hts,run_underlying hu,goInt]),.p _ _ (.int _ _ (has_nat_i64 hm))⟩
        | list k R=>
         obtain ⟨hk,he⟩:=bool?_some h; cases he
         obtain ⟨e,hu⟩:=isSliceT_spec hk
         cases ha.p_inv with
         | listNil k R h0=>rw [h0]; exact ⟨_,hrun _ (by simp [builtin,Builtin.len_,hts,run_underlying hu,goInt]),.p _ _ (.int _ _ (has_nat_i64 (n:=0) (by simp [maxLen])))⟩
         | list k R b off cap g hm hc hM hf=>exact ⟨_,hrun _ (by simp [builtin,Builtin.len_,hts,run_underlying hu,goInt]),.p _ _ (.int _ _ (has_nat_i64 hm))⟩
        | nil=>
         obtain ⟨hk,he⟩:=bool?_some h; cases he
         obtain ⟨e,hu⟩:=isSliceT_spec hk
         cases ha.p_inv
         exact ⟨_,hrun _ (by simp [builtin,Builtin.len_,hts,run_underlying hu,goInt]),.p _ _ (.int _ _ (has_nat_i64 (n:=0) (by simp [maxLen])))⟩
        | _=>cases h
       | _=>cases h
   case min=>
    generalize hvs:al.map ρ=vs at hx'
    have hal:(List.toArray al).map ρ=vs.toArray:=by rw [<-hvs]; simp
    rw [hal] at hrun
    clear hvs hal
    cases hx' with
    | nil=>cases h
    | cons ha ht=>
     unfold evMin at h
     split at h
     .rename_i heq
      cases heq
      obtain ⟨n,hn,he⟩:=map_some h
      cases he
      obtain ⟨e1,hm⟩:=ha.int_inv
      obtain ⟨h1,h2⟩:=foldMin_sound (P:=P) _ _ _ _ hn ht hm w
      exact ⟨_,hrun _ (by simp only [builtin,Builtin.min_,e1,Sem.run_bind]; rw [h1]; rfl),.p _ _ (.int _ _ h2)⟩
     .cases h
   case max=>
    generalize hvs:al.map ρ=vs at hx'
    have hal:(List.toArray al).map ρ=vs.toArray:=by rw [<-hvs]; simp
    rw [hal] at hrun
    clear hvs hal
    cases hx' with
    | nil=>cases h
    | cons ha ht=>
     unfold evMax at h
     split at h
     .rename_i heq
      cases heq
      obtain ⟨n,hn,he⟩:=map_some h
      cases he
      obtain ⟨e1,hm⟩:=ha.int_inv
      obtain ⟨h1,h2⟩:=foldMax_sound (P:=P) _ _ _ _ hn ht hm w
      exact ⟨_,hrun _ (by simp only [builtin,Builtin.max_,e1,Sem.run_bind]; rw [h1]; rfl),.p _ _ (.int _ _ h2)⟩
     .cases h
end Go.Am
namespace Go.Am
open Go Go.RowKit
variable {P:Program} {γ γ':Nat->Option G} {M M':Mem} {C:Ctx} {s s':S} {a a':Act} {w w':World}
theorem OM.keep {id:Nat} {o:AObj} (h:OM γ M w id o) (hγ:GLe γ γ') (hM:MLe M M')
 (hb:∀ g b,γ id=some g->g.blk=some b->w'.heap[b]?=w.heap[b]?/\M' b=M b):OM γ' M' w' id o:=by
 have arr:∀ {e mu k n vs a cap},γ id=some (.arr a k n cap)->ArrOK M w e mu k n vs a cap->ArrOK M' w' e mu k n vs a cap:=by
  intro e mu k n vs a cap hg hA
  refine ⟨?_,hA.one,hA.len,?_⟩
  .obtain ⟨h1,h2⟩:=hA.own
   refine ⟨h1,?_⟩
   rcases h2 with h2 | ⟨g,cap',cur,hv,hge,hh,rest⟩
   .exact .inl h2
   .refine .inr ⟨g,cap',cur,hv,hge,?_,rest⟩
    cases a with
    | none=>cases hv
    | some a => have e : a = g := by simp only [arrV, Option.map_some, Value.slice.injEq, Option.some.injEq, Addr.mk.injEq] at hv; exact hv.1.1
                subst e; rw [(hb _ a hg rfl).1]; exact hh
  .intro g hg'
   subst hg'
   rw [(hb _ g hg rfl).2]
   exact hA.mem g rfl
 cases o with
 | cells cs=>
  obtain ⟨b,vs,e,hg,hh,hs,hc,hm⟩:=h
  have:=hb _ b hg rfl
  exact ⟨b,vs,e,hγ _ _ hg,by rw [this.1]; exact hh,hs,fun j hj=>⟨(hc j hj).1.mono hγ hM,(hc j hj).2⟩,by rw [this.2]; exact hm⟩
 | barr e mu l=>
  obtain ⟨a,cap,hg,hA⟩:=h
  exact ⟨a,cap,hγ _ _ hg,arr hg hA⟩
 | larr e mu k R=>
  obtain ⟨a,cap,vs,hg,hr,hA⟩:=h
  exact ⟨a,cap,vs,hγ _ _ hg,fun i j hi hj=>let ⟨v,hv,hp⟩:=hr i j hi hj; ⟨v,hv,hp.mono hM⟩,arr hg hA⟩
 | bcv e l=>
  obtain ⟨g,cur,hg,hh,ht,hc,hl,hm⟩:=h
  have:=hb _ g hg rfl
  exact ⟨g,cur,hγ _ _ hg,by rw [this.1]; exact hh,ht,hc,hl,by rw [this.2]; exact hm⟩
 | bldr T a=>
  obtain ⟨b,v0,v1,hg,hh,h0,h1,h2,hm⟩:=h
  have:=hb _ b hg rfl
  exact ⟨b,v0,v1,hγ _ _ hg,by rw [this.1]; exact hh,h0,h1.mono hγ hM,h2,by rw [this.2]; exact hm⟩
 | raw o=>
  obtain ⟨b,hg,hh,hm⟩:=h
  have:=hb _ b hg rfl
  exact ⟨b,hγ _ _ hg,by rw [this.1]; exact hh,by rw [this.2]; exact hm⟩
theorem OM.ghost {id:Nat} {o:AObj} (h:OM γ M w id o):∃ g,γ id=some g:=by
 cases o with
 | cells cs=>obtain ⟨b,vs,e,hg,_⟩:=h; exact ⟨_,hg⟩
 | barr e mu l=>obtain ⟨a,cap,hg,_⟩:=h; exact ⟨_,hg⟩
 | larr e mu k R=>obtain ⟨a,cap,vs,hg,_⟩:=h; exact ⟨_,hg⟩
 | bcv e l=>obtain ⟨g,cur,hg,_⟩:=h; exact ⟨_,hg⟩
 | bldr T a=>obtain ⟨b,v0,v1,hg,_⟩:=h; exact ⟨_,hg⟩
 | raw o=>obtain ⟨b,hg,_⟩:=h; exact ⟨_,hg⟩
theorem StG.master (h:StG C γ M s a w) (hγ:GLe γ γ') (hM:MLe M M')
 (hsl:∀ t,ARel γ' M' (s'.sl t) (a'.tmps.getD t undef)) (hnt:a'.tmps.size=C.nt) (hdf:a'.defers=C.dl)
 (tgt:Nat) (hob:∀ i,i≠tgt->s'.ob i=none\/s'.ob i=s.ob i)
 (hγne:∀ i,i≠tgt->γ' i=γ i)
 (hus:∀ i,s'.us i=false->s.us i=false/\i≠tgt)
 (htgt:∀ o,s'.ob tgt=some o->OM γ' M' w' tgt o)
 (hkeep:∀ i g b,i≠tgt->s'.ob i≠none->γ i=some g->g.blk=some b->w'.heap[b]?=w.heap[b]?/\M' b=M b)
 (hsep:∀ i g g' b,i≠tgt->s'.ob i≠none->s'.ob tgt≠none->γ i=some g->γ' tgt=some g'->g.blk=some b->g'.blk=some b->False)
 (hlo:∀ g b,s'.ob tgt≠none->γ' tgt=some g->g.blk=some b->(C.w0.heap.size<=b\/C.own b)/\b < w'.heap.size)
 (hsz:w.heap.size<=w'.heap.size)
 (hmem:MOk M' w') (hnew:∀ b,b < C.w0.heap.size->¬ C.own b->M' b=M b)
 (hfr:Fr C w'):StG C γ' M' s' a' w':=by
 have old:∀ i,i≠tgt->s'.ob i≠none->s'.ob i=s.ob i:=fun i hi hn=>(hob i hi).resolve_left hn
 refine ⟨hsl,?_,?_,?_,?_,hmem,h.le.trans hM,fun b hb ho=>(hnew b hb ho).trans (h.new b hb ho),hfr,hdf,hnt,h.gl.trans hγ⟩
 .intro i o hi
  by_cases ht:i=tgt
  .subst ht; exact htgt o hi
  .have hn:s'.ob i≠none:=by rw [hi]; simp
   have e:=old i ht hn
   exact (h.ob i o (e ▸ hi)).keep hγ hM fun g b hg hb=>hkeep i g b ht hn hg hb
 .intro i hi
  obtain ⟨h1,h2⟩:=hus i hi
  rw [hγne i h2]; exact h.us i h1
 .intro i i' g g' b hi hi' hg hg' hb hb'
  by_cases ht:i=tgt
  .by_cases ht':i'=tgt
   .rw [ht,ht']
   .subst ht
    rw [hγne i' ht'] at hg'
    exact (hsep i' g' g b ht' hi' hi hg' hg hb' hb).elim
  .by_cases ht':i'=tgt
   .subst ht'
    rw [hγne i ht] at hg
    exact (hsep i g g' b ht hi hi' hg hg' hb hb').elim
   .rw [hγne i ht] at hg
    rw [hγne i' ht'] at hg'
    exact h.sep i i' g g' b (old i ht hi ▸ hi) (old i' ht' hi' ▸ hi') hg hg' hb hb'
 .intro i g b hi hg hb
  by_cases ht:i=tgt
  .subst ht; exact hlo g b hi hg hb
  .rw [hγne i ht] at hg
   have:=h.lo i g b (old i ht hi ▸ hi) hg hb
   exact ⟨this.1,by omega⟩
def pset (σ:Nat->AV) (dst:Option Nat) (v:AV):Nat->AV:=
 match dst with
 | some d=>upd σ d v
 | none=>σ
def aset (s:S) (dst:Option Nat) (v:AV):S:={ s with sl:=pset s.sl dst v }
def dstOk (nt:Nat) (dst:Option Nat):Bool:=
 match dst with
 | some d=>Nat.blt d nt
 | none=>true
theorem put_rel {dst:Option Nat} (hd:dstOk a.tmps.size dst=true) {σ:Nat->AV} (h:∀ t,ARel γ M (σ t) (a.tmps.getD t undef)) {r:AV} {v:Value} (hr:ARel γ M r v):
 ∀ t,ARel γ M (pset σ dst r t) ((a.put dst v).tmps.getD t undef):=by
 intro t
 cases dst with
 | none=>exact h t
 | some d=>
  have hd:d < a.tmps.size:=Nat.le_of_ble_eq_true hd
  by_cases ht:t=d
  .subst ht
   have e:(a.put (some t) v).tmps.getD t undef=v:=by
    simp [Act.put,Array.getD_eq_getD_getElem?,hd]
   rw [e]; dsimp only [pset]; rw [upd_same]; exact hr
  .have e:(a.put (some d) v).tmps.getD t undef=a.tmps.getD t undef:=by
    simp only [Act.put,Array.getD_eq_getD_getElem?]
    rw [Array.getElem?_setIfInBounds_ne (fun e=>ht e.symm)]
   rw [e]; dsimp only [pset]; rw [upd_ne _ _ ht]; exact h t
theorem put_size (a:Act) (dst:Option Nat) (v:Value):(a.put dst v).tmps.size=a.tmps.size:=by
 cases dst <;> simp [Act.put]
theorem put_defers (a:Act) (dst:Option Nat) (v:Value):(a.put dst v).defers=a.defers:=by
 cases dst <;> rfl
theorem StG.put (h:StG C γ M s a w) {dst:Option Nat} (hd:dstOk C.nt dst=true) (hM:MLe M M') (hsz:w.heap.size<=w'.heap.size)
 (hold:∀ b,b < w.heap.size->w'.heap[b]?=w.heap[b]?/\M' b=M b) (hmem:MOk M' w')
 (hos:w'.os=w.os) (htape:w'.tape=w.tape) (hout:w'.output=w.output)
 {r:AV} {v:Value} (hr:ARel γ M' r v):StG C γ M' (aset s dst r) (a.put dst v) w':=by
 have hsl:=put_rel (dst:=dst) (by rw [h.nt]; exact hd) (fun t=>(h.sl t).mono (GLe.refl γ) hM) hr
 have e1:(aset s dst r).ob=s.ob:=rfl
 have e2:(aset s dst r).us=s.us:=rfl
 refine ⟨hsl,?_,by rw [e2]; exact h.us,by rw [e1]; exact h.sep,?_,hmem,h.le.trans hM,?_,?_,by rw [put_defers]; exact h.df,by rw [put_size]; exact h.nt,h.gl⟩
 .intro id o ho
  rw [e1] at ho
  refine (h.ob id o ho).keep (GLe.refl γ) hM fun g b hg hb=>?_
  have:=h.lo id g b (by rw [ho]; simp) hg hb
  exact hold b this.2
 .intro id g b ho hg hb
  rw [e1] at ho
  have:=h.lo id g b ho hg hb
  exact ⟨this.1,by omega⟩
 .intro b hb ho
  have:=h.fr.size
  rw [(hold b (by omega)).2]; exact h.new b hb ho
 .have:=h.fr
  exact ⟨hos.trans this.os,htape.trans this.tape,hout.trans this.output,Nat.le_trans this.size hsz,fun b hb ho=>(hold b (by have:=this.size; omega)).1.trans (this.block b hb ho)⟩
theorem StG.birth (h:StG C γ M s a w) {d:Nat} (hd:dstOk C.nt (some d)=true) (hu:s.us d=false) (hM:MLe M M') (hsz:w.heap.size<=w'.heap.size)
 (hold:∀ b,b < w.heap.size->w'.heap[b]?=w.heap[b]?/\M' b=M b) (hmem:MOk M' w')
 (hos:w'.os=w.os) (htape:w'.tape=w.tape) (hout:w'.output=w.output)
 {g:G} (hg:∀ b,g.blk=some b->w.heap.size<=b/\b < w'.heap.size) {o:AObj} (ho:OM (upd γ d (some g)) M' w' d o)
 {r:AV} {v:Value} (hr:ARel (upd γ d (some g)) M' r v):
 StG C (upd γ d (some g)) M' { sl:=upd s.sl d r,ob:=upd s.ob d (some o),us:=upd s.us d true } (a.put (some d) v) w':=by
 have hγ:GLe γ (upd γ d (some g)):=by
  intro i g' hi
  by_cases e:i=d
  .subst e; rw [h.us i hu] at hi; cases hi
  .rw [upd_ne _ _ e]; exact hi
 have hne:∀ i,i≠d->s.ob i≠none->∀ g b,γ i=some g->g.blk=some b->b < w.heap.size:=fun i _ ho g b hg hb=>(h.lo i g b ho hg hb).2
 refine h.master (s':={ sl:=upd s.sl d r,ob:=upd s.ob d (some o),us:=upd s.us d true }) hγ hM
  (put_rel (dst:=some d) (by rw [h.nt]; exact hd) (fun t=>(h.sl t).mono hγ hM) hr) (by rw [put_size]; exact h.nt) (by rw [put_defers]; exact h.df) d
  (fun i hi=>.inr (upd_ne _ _ hi)) (fun i hi=>upd_ne _ _ hi) ?_ ?_ ?_ ?_ ?_ hsz hmem ?_ ?_
 .intro i hi
  dsimp only at hi
  by_cases e:i=d
  .subst e; rw [upd_same] at hi; cases hi
  .rw [upd_ne _ _ e] at hi; exact ⟨hi,e⟩
 .intro o' ho'
  dsimp only at ho'
  rw [upd_same] at ho'; cases ho'; exact ho
 .intro i g' b hi hob hgi hb
  dsimp only at hob
  rw [upd_ne _ _ hi] at hob
  exact hold b (hne i hi hob g' b hgi hb)
 .intro i g1 g2 b hi hob _ hg1 hg2 hb1 hb2
  dsimp only at hob
  rw [upd_ne _ _ hi] at hob
  rw [upd_same] at hg2; cases hg2
  have:=hne i hi hob g1 b hg1 hb1
  have:=(hg b hb2).1
  omega
 .intro g' b _ hg' hb
  rw [upd_same] at hg'; cases hg'
  have:=hg b hb
  have:=h.fr.size
  exact ⟨.inl (by omega),by omega⟩
 .intro b hb _
  have:=h.fr.size
  exact (hold b (by omega)).2
 .have:=h.fr
  exact ⟨hos.trans this.os,htape.trans this.tape,hout.trans this.output,Nat.le_trans this.size hsz,fun b hb ho=>(hold b (by have:=this.size; omega)).1.trans (this.block b hb ho)⟩
end Go.Am
namespace Go.Am
open Go Go.RowKit
variable {P:Program} {γ γ':Nat->Option G} {M M':Mem} {C:Ctx} {s s':S} {a a':Act} {w w':World}
def aload (P:Program) (t:TypeId) (n:Nat) (x:Nat->AV):Option AV:=
 match isAggT P t,sizeT P t with
 | some true,some m=>match Nat.ble m n with
  | true=>some (.agg ((List.range m).map x))
  | false=>none
 | some false,some _=>match Nat.blt 0 n with
  | true=>some (x 0)
  | false=>none
 | _,_=>none
theorem aload_sound {t:TypeId} {n:Nat} {x:Nat->AV} {r:AV} (h:aload P t n x=some r) {b off:Nat} {g:Nat->Value}
 (hc:∀ j,j < n->w.cell? ⟨b,off+j,none⟩=some (g j)) (hx:∀ j,j < n->ARel γ M (x j) (g j)):
 ∃ v,(loadVar t ⟨b,off,none⟩).run P w=.ok v w/\ARel γ M r v:=by
 unfold aload at h
 cases ha:isAggT P t with
 | none=>rw [ha] at h; cases h
 | some bb=>
  cases hz:sizeT P t with
  | none=>rw [ha,hz] at h; cases bb <;> cases h
  | some m=>
   rw [ha,hz] at h
   cases bb with
   | true=>
    dsimp only at h
    split at h
    .rename_i hb
     have hb:=Nat.le_of_ble_eq_true hb
     cases h
     have hl:=run_loadCells (P:=P) w ⟨b,off,none⟩ m g (fun j hj=>by rw [addr_add]; exact hc j (by omega))
     refine ⟨.agg ((List.range m).map g).toArray,by simp [loadVar,run_isAgg ha,run_sizeOf hz,hl],.agg _ _ (by simp) ?_⟩
     intro i hi
     have hi':i < m:=by simpa using hi
     have:=hx i (by omega)
     simpa [List.getD_eq_getElem?_getD,Array.getD_eq_getD_getElem?,hi'] using this
    .cases h
   | false=>
    dsimp only at h
    split at h
    .rename_i hb
     have hb:0 < n:=Nat.le_of_ble_eq_true hb
     cases h
     have:=hc 0 hb
     rw [Nat.add_zero] at this
     exact ⟨g 0,by simp only [loadVar,Sem.run_bind,run_isAgg ha,Result.andThen_ok]; simp [run_load,this],hx 0 hb⟩
    .cases h
def evLoad (P:Program) (ob:Nat->Option AObj) (t:TypeId):List AV->Option (AV×Option Prop)
 | [.ref id off]=>match ob id with
  | some (.cells cs)=>(aload P t (cs.length - off) (fun j=>cs.getD (off+j) .any)).map fun r=>(r,none)
  | some (.bldr _ x)=>match off with
   | 1=>(aload P t 1 (fun _=>x)).map fun r=>(r,none)
   | _=>none
  | _=>none
 | [.p (.box n f)]=>(aload P t n (fun j=>.p (f j))).map fun r=>(r,none)
 | [.aptr id i j]=>match ob id with
  | some (.barr _ _ l)=>match j with
   | 0=>(aload P t 1 (fun _=>.p (.int .u8 ((l.getD i 0).toNat:Int)))).map fun r=>(r,some (i < l.length))
   | _=>none
  | some (.bcv _ l)=>match j with
   | 0=>(aload P t 1 (fun _=>.p (.int .u8 ((l.getD i 0).toNat:Int)))).map fun r=>(r,some (i < l.length))
   | _=>none
  | some (.larr _ _ k R)=>(aload P t (k - j) (fun q=>.p (R.f i (j+q)))).map fun r=>(r,some (i < R.n))
  | _=>none
 | _=>none
def evLenL (P:Program) (ob:Nat->Option AObj) (t:TypeId):List AV->Option (AV×Option Prop)
 | [.arr id]=>match ob id with
  | some (.barr _ _ l)=>bool? (isSliceT P t) (.p (.int .i64 (l.length:Int)),none)
  | some (.larr _ _ _ R)=>bool? (isSliceT P t) (.p (.int .i64 (R.n:Int)),none)
  | some (.bcv _ l)=>bool? (isSliceT P t) (.p (.int .i64 (l.length:Int)),none)
  | _=>none
 | _=>none
def evIndexAddrL (P:Program) (ob:Nat->Option AObj) (t:TypeId):List AV->Option (AV×Option Prop)
 | [.arr id,.p (.int _ i)]=>match ob id,elemSize P t with
  | some (.barr _ _ l),some k=>bool? (Nat.beq 1 k) (.aptr id i.toNat 0,some (0<=i/\i < (l.length:Int)))
  | some (.bcv _ l),some k=>bool? (Nat.beq 1 k) (.aptr id i.toNat 0,some (0<=i/\i < (l.length:Int)))
  | some (.larr _ _ k' R),some k=>bool? (Nat.beq k' k) (.aptr id i.toNat 0,some (0<=i/\i < (R.n:Int)))
  | _,_=>none
 | _=>none
def isByteSliceT (P:Program) (t:TypeId):Bool:=
 match sliceE P t with
 | some e=>match P.underlying e with | some (.int .u8)=>true | _=>false
 | none=>false
def evConvL (P:Program) (ob:Nat->Option AObj) (s d:TypeId):List AV->Option (AV×Option Prop)
 | [.arr id]=>match ob id with
  | some (.barr _ _ l)=>bool? (isByteSliceT P s&&isStrT P d) (.p (.str l),none)
  | some (.bcv _ l)=>bool? (isByteSliceT P s&&isStrT P d) (.p (.str l),none)
  | _=>none
 | [.p (.bytes l)]=>bool? (isByteSliceT P s&&isStrT P d) (.p (.str l),none)
 | [.p .nil]=>bool? (isByteSliceT P s&&isStrT P d) (.p (.str []),none)
 | _=>none
def evL (P:Program) (ob:Nat->Option AObj) (op:Op) (xs:List AV):Option (AV×Option Prop):=
 match op with
 | .load t _=>evLoad P ob t xs
 | .indexAddr t _ _=>evIndexAddrL P ob t xs
 | .convert s d _=>evConvL P ob s d xs
 | .call ⟨.builtin .len,_,ts⟩=>match ts[0]? with | some t=>evLenL P ob t xs | none=>none
 | _=>none
theorem ArrOK.cell {e:TypeId} {mu:Bool} {k n:Nat} {vs:List Value} {g cap:Nat} (h:ArrOK M w e mu k n vs (some g) cap):
 ∀ j u,vs[j]?=some u->w.cell? ⟨g,j,none⟩=some u:=by
 intro j u hu
 have:=h.own.cells (g:=g) rfl j u hu
 rw [addr_add,Nat.zero_add] at this; exact this
theorem ArrOK.len_vs {e:TypeId} {mu:Bool} {k n:Nat} {vs:List Value} {a:Option Nat} {cap:Nat} (h:ArrOK M w e mu k n vs a cap):vs.length=n * k:=h.own.1
theorem ArrOK.none {e:TypeId} {mu:Bool} {k n:Nat} {vs:List Value} {cap:Nat} (h:ArrOK M w e mu k n vs none cap):n=0/\cap=0:=by
 rcases h.own.2 with ⟨hv,hn⟩ | ⟨g,cap',cur,hv,_⟩
 .simp [arrV] at hv; exact ⟨hn,hv.2⟩
 .simp [arrV] at hv
theorem ARel.ref_inv {id off:Nat} {v:Value} (h:ARel γ M (.ref id off) v):∃ b,γ id=some (.cell b)/\v=.pointer (some ⟨b,off,none⟩):=by
 cases h with | ref id off b h=>exact ⟨b,h,rfl⟩
theorem ARel.arr_inv {id:Nat} {v:Value} (h:ARel γ M (.arr id) v):∃ a k n cap,γ id=some (.arr a k n cap)/\v=arrV a n cap:=by
 cases h with | arr id a k n cap h=>exact ⟨a,k,n,cap,h,rfl⟩
theorem ARel.aptr_inv {id i j:Nat} {v:Value} (h:ARel γ M (.aptr id i j) v):∃ g k n cap,γ id=some (.arr (some g) k n cap)/\v=.pointer (some ⟨g,i * k+j,none⟩):=by
 cases h with | aptr id i j g k n cap h=>exact ⟨g,k,n,cap,h,rfl⟩
theorem byteV_get {l:List UInt8} {i:Nat} (h:i < l.length):(l.map byteV)[i]?=some (byteV (l.getD i 0)):=by
 rw [List.getElem?_map,List.getElem?_eq_getElem h,List.getD_eq_getElem?_getD,List.getElem?_eq_getElem h]; rfl
theorem byteV_rel (γ:Nat->Option G) (M:Mem) (c:UInt8):ARel γ M (.p (.int .u8 (c.toNat:Int))) (byteV c):=.p _ _ (.int _ _ (has_u8 c))
theorem bcv_cell {g:Nat} {cur:Array Value} {e:TypeId} {l:List UInt8} (hh:w.heap[g]?=some (.cells cur e (cur.size,cur.size+1))) (ht:cur.toList.take l.length=l.map byteV):
 ∀ i c,l[i]?=some c->w.cell? ⟨g,i,none⟩=some (byteV c):=by
 intro i c hc
 have h1:(cur.toList.take l.length)[i]?=some (byteV c):=by rw [ht,List.getElem?_map,hc]; rfl
 have hlt:i < l.length:=by
  rcases Nat.lt_or_ge i l.length with h | h
  .exact h
  .rw [List.getElem?_eq_none h] at hc; cases hc
 rw [List.getElem?_take_of_lt hlt] at h1
 rw [cell_of_row w g i cur e _ hh]
 simpa using h1
theorem bcv_get {l:List UInt8} {i:Nat} (h:i < l.length):l[i]?=some (l.getD i 0):=by
 rw [List.getElem?_eq_getElem h,List.getD_eq_getElem?_getD,List.getElem?_eq_getElem h]; rfl
theorem evLoad_sound (hs:StG C γ M s a w) {t:TypeId} {x r:AV} {ok:Option Prop} (h:evLoad P s.ob t [x]=some (r,ok)) (hok:okP ok) {v:Value}
 (hx:ARel γ M x v):∃ u,(Instr.loadAt t v).run P w=.ok u w/\ARel γ M r u:=by
 cases x with
 | ref id off=>
  obtain ⟨b,hb,rfl⟩:=hx.ref_inv
  dsimp only [evLoad] at h
  cases ho:s.ob id with
  | none=>rw [ho] at h; cases h
  | some o=>
   rw [ho] at h
   cases o with
   | cells cs=>
    obtain ⟨r',hr,he⟩:=map_some h
    cases he
    obtain ⟨b',vs,e,hg,hh,hsz,hc,_⟩:=hs.ob id _ ho
    rw [hb] at hg; cases hg
    obtain ⟨u,hu,hrel⟩:=aload_sound (P:=P) (w:=w) (γ:=γ) (M:=M) hr (b:=b) (off:=off) (g:=fun j=>vs.getD (off+j) undef)
     (fun j hj=>by
      rw [cell_of_row w b (off+j) vs e (0,0) hh,Array.getD_eq_getD_getElem?,Array.getElem?_eq_getElem (by omega)]; rfl)
     (fun j hj=>(hc (off+j) (by omega)).1)
    exact ⟨u,by simp [Instr.loadAt,Instr.sureAddr,hu],hrel⟩
   | bldr T x=>
    match off,h with
    | 0,h=>cases h
    | 1,h=>
     obtain ⟨r',hr,he⟩:=map_some h
     cases he
     obtain ⟨b',v0,v1,hg,hh,h0,h1,h2,_⟩:=hs.ob id _ ho
     rw [hb] at hg; cases hg
     obtain ⟨u,hu,hrel⟩:=aload_sound (P:=P) (w:=w) (γ:=γ) (M:=M) hr (b:=b) (off:=1) (g:=fun j=>v1)
      (fun j hj=>by
       have:j=0:=by omega
       subst this
       rw [cell_of_row w b 1 #[v0,v1] T (0,0) hh]; rfl)
      (fun j hj=>h1)
     exact ⟨u,by simp [Instr.loadAt,Instr.sureAddr,hu],hrel⟩
    | _+2,h=>cases h
   | _=>cases h
 | p q=>
  cases q with
  | box n f=>
   obtain ⟨r',hr,he⟩:=map_some h
   cases he
   cases hx.p_inv with
   | box n f b off g hM hf=>
    obtain ⟨u,hu,hrel⟩:=aload_sound (P:=P) (w:=w) (γ:=γ) (M:=M) hr (b:=b) (off:=off) (g:=g)
     (fun j hj=>hs.mem _ _ _ (hM j hj)) (fun j hj=>.p _ _ (hf j hj))
    exact ⟨u,by simp [Instr.loadAt,Instr.sureAddr,hu],hrel⟩
  | _=>cases h
 | aptr id i j=>
  obtain ⟨g,k,n,cap,hg,rfl⟩:=hx.aptr_inv
  dsimp only [evLoad] at h
  cases ho:s.ob id with
  | none=>rw [ho] at h; cases h
  | some o=>
   rw [ho] at h
   cases o with
   | cells cs=>cases h
   | barr e mu l=>
    cases j with
    | succ j=>cases h
    | zero=>
     obtain ⟨r',hr,he⟩:=map_some h
     cases he
     obtain ⟨a',cap',hg',hA⟩:=hs.ob id _ ho
     rw [hg] at hg'; cases hg'
     have hlt:i < l.length:=hok
     obtain ⟨u,hu,hrel⟩:=aload_sound (P:=P) (w:=w) (γ:=γ) (M:=M) hr (b:=g) (off:=i * 1+0) (g:=fun _=>byteV (l.getD i 0))
      (fun q hq=>by
       have:q=0:=by omega
       subst this
       have:=hA.cell i _ (byteV_get hlt)
       simpa using this)
      (fun q hq=>byteV_rel γ M _)
     exact ⟨u,by simp only [Instr.loadAt,Instr.sureAddr,Sem.run_bind,Sem.run_pure,Result.andThen_ok]; exact hu,hrel⟩
   | bcv e l=>
    cases j with
    | succ j=>cases h
    | zero=>
     obtain ⟨r',hr,he⟩:=map_some h
     cases he
     obtain ⟨g',cur,hg',hh,ht,hc,hl,_⟩:=hs.ob id _ ho
     rw [hg] at hg'; cases hg'
     have hlt:i < l.length:=hok
     obtain ⟨u,hu,hrel⟩:=aload_sound (P:=P) (w:=w) (γ:=γ) (M:=M) hr (b:=g) (off:=i * 1+0) (g:=fun _=>byteV (l.getD i 0))
      (fun q hq=>by
       have:q=0:=by omega
       subst this
       have:=bcv_cell hh ht i _ (bcv_get hlt)
       simpa using this)
      (fun q hq=>byteV_rel γ M _)
     exact ⟨u,by simp only [Instr.loadAt,Instr.sureAddr,Sem.run_bind,Sem.run_pure,Result.andThen_ok]; exact hu,hrel⟩
   | bldr _ _=>cases h
   | raw _=>cases h
   | larr e mu k' R=>
    obtain ⟨r',hr,he⟩:=map_some h
    cases he
    obtain ⟨a',cap',vs,hg',hv,hA⟩:=hs.ob id _ ho
    rw [hg] at hg'; cases hg'
    have hlt:i < R.n:=hok
    obtain ⟨u,hu,hrel⟩:=aload_sound (P:=P) (w:=w) (γ:=γ) (M:=M) hr (b:=g) (off:=i * k+j) (g:=fun q=>vs.getD (i * k+(j+q)) undef)
     (fun q hq=>by
      obtain ⟨v',hv1,_⟩:=hv i (j+q) hlt (by omega)
      have:=hA.cell _ _ hv1
      rw [List.getD_eq_getElem?_getD,hv1]
      simpa [Nat.add_assoc] using this)
     (fun q hq=>by
      obtain ⟨v',hv1,hv2⟩:=hv i (j+q) hlt (by omega)
      rw [List.getD_eq_getElem?_getD,hv1]
      exact .p _ _ hv2)
    exact ⟨u,by simp only [Instr.loadAt,Instr.sureAddr,Sem.run_bind,Sem.run_pure,Result.andThen_ok]; exact hu,hrel⟩
 | _=>cases h
theorem isByteSliceT_spec {t:TypeId} (h:isByteSliceT P t=true):∃ e,P.underlying t=some (.slice e)/\P.underlying e=some (.int .u8):=by
 unfold isByteSliceT at h
 split at h
 .rename_i e he
  refine ⟨e,sliceE_spec he,?_⟩
  split at h
  .assumption
  .cases h
 .cases h
theorem run_bytesToString (b off cap:Nat) (l:List UInt8) (h:∀ i c,l[i]?=some c->w.cell? ⟨b,off+i,none⟩=some (byteV c)):
 (Conv.bytesToString (.slice (some ⟨b,off,none⟩) l.length cap)).run P w=.ok (.string ⟨l.toArray⟩) w:=by
 have hl:=run_loadCells_list (P:=P) w ⟨b,off,none⟩ (l.map byteV) (fun j v hv=>by
  rw [addr_add]
  rw [List.getElem?_map] at hv
  cases hc:l[j]? with
  | none=>rw [hc] at hv; cases hv
  | some c=>rw [hc] at hv; cases hv; exact h j c hc)
 rw [List.length_map] at hl
 have e1:l.map byteV=(l.map fun c=>(c.toNat:Int)).map (Value.int .u8):=by rw [List.map_map]; rfl
 rw [e1] at hl
 rw [Go.run_bytesToString w _ l.length cap _ hl,foldl_push_bytes]
 have e2:(l.map fun c=>(c.toNat:Int)).map (fun n=>UInt8.ofNat n.toNat)=l:=by
  rw [List.map_map]
  conv=>rhs; rw [<-List.map_id l]
  exact List.map_congr_left fun c _=>by simp
 rw [e2]
 simp [ByteArray.empty,ByteArray.emptyWithCapacity]
 rfl
theorem run_convert_bytes {sT d:TypeId} (hT:(isByteSliceT P sT&&isStrT P d)=true) (v:Value) (hv:∃ x n c,v=.slice x n c):
 (convert sT d v).run P w=(Conv.bytesToString v).run P w:=by
 rw [Bool.and_eq_true] at hT
 obtain ⟨e,h1,h2⟩:=isByteSliceT_spec hT.1
 have h3:=isStrT_spec hT.2
 obtain ⟨x,n,c,rfl⟩:=hv
 simp [convert,run_underlying h1,run_underlying h2,run_underlying h3]
theorem evConvL_sound (hs:StG C γ M s a w) {sT d:TypeId} {x r:AV} {ok:Option Prop} (h:evConvL P s.ob sT d [x]=some (r,ok)) {v:Value}
 (hx:ARel γ M x v):∃ u,(convert sT d v).run P w=.ok u w/\ARel γ M r u:=by
 cases x with
 | arr id=>
  obtain ⟨a',k,n,cap,hg,rfl⟩:=hx.arr_inv
  dsimp only [evConvL] at h
  cases ho:s.ob id with
  | none=>rw [ho] at h; cases h
  | some o=>
   rw [ho] at h
   cases o with
   | barr e mu l=>
    obtain ⟨hT,he⟩:=bool?_some h
    cases he
    obtain ⟨a2,cap2,hg',hA⟩:=hs.ob id _ ho
    rw [hg] at hg'; cases hg'
    rw [run_convert_bytes hT (arrV a' l.length cap) ⟨_,_,_,rfl⟩]
    cases a' with
    | none=>
     have:=hA.none
     have hl:l=[]:=List.eq_nil_of_length_eq_zero this.1
     subst hl
     exact ⟨.string .empty,rfl,.p _ _ (.str [] (by simp))⟩
    | some g=>
     exact ⟨_,run_bytesToString g 0 cap l (fun i c hc=>by
      have:=hA.cell i (byteV c) (by rw [List.getElem?_map,hc]; rfl)
      simpa using this),.p _ _ (.str _ hA.len)⟩
   | bcv e l=>
    obtain ⟨hT,he⟩:=bool?_some h
    cases he
    obtain ⟨g,cur,hg',hh,ht,hc,hl,_⟩:=hs.ob id _ ho
    rw [hg] at hg'; cases hg'
    rw [run_convert_bytes hT (arrV (some g) l.length cur.size) ⟨_,_,_,rfl⟩]
    exact ⟨_,run_bytesToString g 0 cur.size l (fun i c hc=>by
     have:=bcv_cell hh ht i c hc
     simpa using this),.p _ _ (.str _ hl)⟩
   | _=>cases h
 | p q=>
  cases q with
  | bytes l=>
   obtain ⟨hT,he⟩:=bool?_some h
   cases he
   rcases bytes_inv hx.p_inv with ⟨rfl,rfl⟩ | ⟨b,off,cap,rfl,hm,hc,hM⟩
   .rw [run_convert_bytes hT _ ⟨_,_,_,rfl⟩]
    exact ⟨.string .empty,rfl,.p _ _ (.str [] (by simp))⟩
   .rw [run_convert_bytes hT _ ⟨_,_,_,rfl⟩]
    exact ⟨_,run_bytesToString b off cap l (fun i c hc=>hs.mem _ _ _ (hM i c hc)),.p _ _ (.str _ hm)⟩
  | nil=>
   obtain ⟨hT,he⟩:=bool?_some h
   cases he
   cases hx.p_inv
   rw [run_convert_bytes hT _ ⟨_,_,_,rfl⟩]
   exact ⟨.string .empty,rfl,.p _ _ (.str [] (by simp))⟩
  | _=>cases h
 | _=>cases h
theorem evIndexAddrL_sound (hs:StG C γ M s a w) {t:TypeId} {x y r:AV} {ok:Option Prop} (h:evIndexAddrL P s.ob t [x,y]=some (r,ok)) (hok:okP ok) {v u:Value}
 (hx:ARel γ M x v) (hy:ARel γ M y u):∃ q,(Instr.indexAt t v u).run P w=.ok q w/\ARel γ M r q:=by
 cases x with
 | arr id=>
  cases y with
  | p y=>
   cases y with
   | int kk i=>
    obtain ⟨a',k,n,cap,hg,rfl⟩:=hx.arr_inv
    have hu:=hy.int_inv.1
    subst hu
    dsimp only [evIndexAddrL] at h
    cases ho:s.ob id with
    | none=>rw [ho] at h; cases h
    | some o=>
     cases hk:elemSize P t with
     | none=>rw [ho,hk] at h; cases o <;> cases h
     | some k1=>
      rw [ho,hk] at h
      cases o with
      | cells cs=>cases h
      | barr e mu l=>
       obtain ⟨hT,he⟩:=bool?_some h
       cases he
       have hT:=Nat.eq_of_beq_eq_true hT
       subst hT
       obtain ⟨a2,cap2,hg',hA⟩:=hs.ob id _ ho
       rw [hg] at hg'; cases hg'
       cases a' with
       | none=>have:=hA.none; exact absurd hok.2 (by omega)
       | some g=>exact ⟨_,run_indexAt_slice hk g 0 _ _ _ _ hok.1 hok.2 w,by rw [Nat.zero_add]; exact .aptr id _ _ _ _ _ _ hg⟩
      | bcv e l=>
       obtain ⟨hT,he⟩:=bool?_some h
       cases he
       have hT:=Nat.eq_of_beq_eq_true hT
       subst hT
       obtain ⟨g,cur,hg',hh,ht,hc,hl,_⟩:=hs.ob id _ ho
       rw [hg] at hg'; cases hg'
       exact ⟨_,run_indexAt_slice hk g 0 _ _ _ _ hok.1 hok.2 w,by rw [Nat.zero_add]; exact .aptr id _ _ _ _ _ _ hg⟩
      | bldr _ _=>cases h
      | raw _=>cases h
      | larr e mu k2 R=>
       obtain ⟨hT,he⟩:=bool?_some h
       cases he
       have hT:=Nat.eq_of_beq_eq_true hT
       subst hT
       obtain ⟨a2,cap2,vs,hg',hv,hA⟩:=hs.ob id _ ho
       rw [hg] at hg'; cases hg'
       cases a' with
       | none=>have:=hA.none; exact absurd hok.2 (by omega)
       | some g=>exact ⟨_,run_indexAt_slice hk g 0 _ _ _ _ hok.1 hok.2 w,by rw [Nat.zero_add]; exact .aptr id _ _ _ _ _ _ hg⟩
   | _=>cases h
  | _=>cases h
 | _=>cases h
theorem evLenL_sound (hs:StG C γ M s a w) {t:TypeId} {x r:AV} {ok:Option Prop} (h:evLenL P s.ob t [x]=some (r,ok)) {v:Value}
 (hx:ARel γ M x v) (ts:Array TypeId) (ht:ts[0]?=some t) (ty:TypeId):∃ q,(Builtin.len_ ts ty #[v]).run P w=.ok q w/\ARel γ M r q:=by
 cases x with
 | arr id=>
  obtain ⟨a',k,n,cap,hg,rfl⟩:=hx.arr_inv
  dsimp only [evLenL] at h
  cases ho:s.ob id with
  | none=>rw [ho] at h; cases h
  | some o=>
   rw [ho] at h
   cases o with
   | cells cs=>cases h
   | barr e mu l=>
    obtain ⟨hT,he⟩:=bool?_some h
    cases he
    obtain ⟨e',hu⟩:=isSliceT_spec hT
    obtain ⟨a2,cap2,hg',hA⟩:=hs.ob id _ ho
    rw [hg] at hg'; cases hg'
    exact ⟨_,by simp [Builtin.len_,ht,run_underlying hu,arrV,goInt],.p _ _ (.int _ _ (has_nat_i64 hA.len))⟩
   | bcv e l=>
    obtain ⟨hT,he⟩:=bool?_some h
    cases he
    obtain ⟨e',hu⟩:=isSliceT_spec hT
    obtain ⟨g,cur,hg',hh,ht2,hc,hl,_⟩:=hs.ob id _ ho
    rw [hg] at hg'; cases hg'
    exact ⟨_,by simp [Builtin.len_,ht,run_underlying hu,arrV,goInt],.p _ _ (.int _ _ (has_nat_i64 hl))⟩
   | bldr _ _=>cases h
   | raw _=>cases h
   | larr e mu k2 R=>
    obtain ⟨hT,he⟩:=bool?_some h
    cases he
    obtain ⟨e',hu⟩:=isSliceT_spec hT
    obtain ⟨a2,cap2,vs,hg',hv,hA⟩:=hs.ob id _ ho
    rw [hg] at hg'; cases hg'
    exact ⟨_,by simp [Builtin.len_,ht,run_underlying hu,arrV,goInt],.p _ _ (.int _ _ (has_nat_i64 hA.len))⟩
 | _=>cases h
theorem evL_sound (hs:StG C γ M s a w) (o:Oper) {xs:List AV} {r:AV} {ok:Option Prop} (h:evL P s.ob o.op xs=some (r,ok)) (hok:okP ok)
 {ρ:Operand->Value} (hx:ARels γ M xs (o.op.operands.toList.map ρ)):∃ v,(execOp ρ o).run P w=.ok (.value v) w/\ARel γ M r v:=by
 obtain ⟨dst,op,type,pos,after,guard⟩:=o
 dsimp only at hx h
 cases op <;> simp only [evL,reduceCtorEq] at h <;> simp only [Op.operands,List.map_cons,List.map_nil] at hx
 case load t x=>
  cases hx with
  | cons h1 ht=>
   cases ht with
   | nil=>
    obtain ⟨v,hv,hr⟩:=evLoad_sound (P:=P) hs h hok h1
    exact ⟨v,by simp [execOp,hv],hr⟩
 case convert sT d x=>
  cases hx with
  | cons h1 ht=>
   cases ht with
   | nil=>
    obtain ⟨v,hv,hr⟩:=evConvL_sound (P:=P) hs h h1
    exact ⟨v,by simp [execOp,hv],hr⟩
 case indexAddr t x i=>
  cases hx with
  | cons h1 ht=>
   cases ht with
   | cons h2 ht=>
    cases ht with
    | nil=>
     obtain ⟨v,hv,hr⟩:=evIndexAddrL_sound (P:=P) hs h hok h1 h2
     exact ⟨v,by simp [execOp,hv],hr⟩
 case call c=>
  obtain ⟨callee,args,ts⟩:=c
  cases callee with
  | value f=>cases h
  | invoke r m=>cases h
  | builtin b=>
   cases b <;> dsimp only at h <;> first | (cases h; done) | skip
   have hx':ARels γ M xs (args.toList.map ρ):=by simpa [Call.operands] using hx
   cases hts:ts[0]? with
   | none=>rw [hts] at h; cases h
   | some t=>
    rw [hts] at h
    dsimp only at h
    cases args with
    | mk al=>
    dsimp only at hx'
    generalize hvs:al.map ρ=vs at hx'
    have hal:(List.toArray al).map ρ=vs.toArray:=by rw [<-hvs]; simp
    cases hx' with
    | nil=>cases h
    | cons ha ht=>
     cases ht with
     | cons _ _=>simp [evLenL] at h
     | nil=>
      obtain ⟨v,hv,hr⟩:=evLenL_sound (P:=P) hs h ha ts hts type
      refine ⟨v,?_,hr⟩
      simp only [execOp,resolve,Sem.run_bind,Sem.run_pure,Result.andThen_ok,invoke,builtin,hal,hv]
end Go.Am
namespace Go.Am
open Go Go.RowKit
variable {P:Program} {γ γ':Nat->Option G} {M M':Mem} {C:Ctx} {s s':S} {a a':Act} {w w':World}
def CRel (γ:Nat->Option G) (M:Mem) (cs:List AV) (vs:Array Value):Prop:=
 vs.size=cs.length/\∀ j,j < cs.length->ARel γ M (cs.getD j .any) (vs.getD j undef)
def over (cs:List AV) (off:Nat) (xs:List AV):List AV:=cs.take off++(xs++cs.drop (off+xs.length))
theorem foldl_set (off:Nat):∀ (l:List Value) (n:Nat) (cells:Array Value),
 ((l.zipIdx n).foldl (fun cs x=>cs.setIfInBounds (off+x.2) x.1) cells).size=cells.size/\
 ∀ j,off+n+l.length<=cells.size->((l.zipIdx n).foldl (fun cs x=>cs.setIfInBounds (off+x.2) x.1) cells)[j]?=
  if off+n<=j/\j < off+n+l.length then l[j - (off+n)]? else cells[j]?
 | [],n,cells=>by
  refine ⟨rfl,fun j _=>?_⟩
  rw [if_neg (by simp)]; rfl
 | v::l,n,cells=>by
  obtain ⟨h1,h2⟩:=foldl_set off l (n+1) (cells.setIfInBounds (off+n) v)
  simp only [List.zipIdx_cons,List.foldl_cons,List.length_cons]
  refine ⟨by rw [h1]; simp,fun j hj=>?_⟩
  rw [h2 j (by simp; omega)]
  by_cases e:j=off+n
  .subst e
   rw [if_neg (by omega),if_pos (by omega)]
   rw [Array.getElem?_setIfInBounds_self_of_lt (by omega)]
   simp
  .rw [Array.getElem?_setIfInBounds_ne (by omega)]
   by_cases hc:off+(n+1)<=j/\j < off+(n+1)+l.length
   .rw [if_pos hc,if_pos (by omega)]
    obtain ⟨q,hq⟩:∃ q,j - (off+n)=q+1:=⟨j - (off+n) - 1,by omega⟩
    have hq2:j - (off+(n+1))=q:=by omega
    rw [hq,hq2]; rfl
   .rw [if_neg hc,if_neg (by omega)]
theorem over_length {cs:List AV} {off:Nat} {xs:List AV} (h:off+xs.length<=cs.length):(over cs off xs).length=cs.length:=by
 simp [over]; omega
theorem over_get {cs:List AV} {off:Nat} {xs:List AV} (h:off+xs.length<=cs.length) (j:Nat):
 (over cs off xs).getD j .any=if off<=j/\j < off+xs.length then xs.getD (j - off) .any else cs.getD j .any:=by
 unfold over
 simp only [List.getD_eq_getElem?_getD]
 by_cases h1:j < off
 .rw [List.getElem?_append_left (by simp; omega),if_neg (by omega),List.getElem?_take,if_pos h1]
 .rw [List.getElem?_append_right (by simp; omega)]
  have e:(cs.take off).length=off:=by simp; omega
  rw [e]
  by_cases h2:j < off+xs.length
  .rw [List.getElem?_append_left (by omega),if_pos (by omega)]
  .rw [List.getElem?_append_right (by omega),if_neg (by omega),List.getElem?_drop]
   congr 2
   omega
def AV.cells?:AV->Option (List AV)
 | .agg cs=>some cs
 | x=>match x.one with | true=>some [x] | false=>none
theorem cells?_rel {x:AV} {ys:List AV} (h:x.cells?=some ys) {v:Value} (hx:ARel γ M x v):CRel γ M ys v.cells:=by
 cases x with
 | agg cs=>
  cases h
  obtain ⟨vs,rfl,hs,hr⟩:=hx.agg_inv
  exact ⟨hs,hr⟩
 | any=>cases h
 | tup cs=>cases h
 | gd c y=>cases h
 | _=>
  cases h
  have h1:=hx.oneCell rfl
  have e:v.cells=#[v]:=by cases v <;> first | rfl | cases h1
  rw [e]
  refine ⟨rfl,fun j hj=>?_⟩
  have:j=0:=by simp at hj; omega
  subst this
  exact hx
def afill (place:Nat->Option (Nat×Nat)) (cs:List AV):List (Nat×AV)->Option (List AV)
 | []=>some cs
 | (i,x)::rest=>match place i,x.cells? with
  | some (off,size),some ys=>match Nat.beq ys.length size&&Nat.ble (off+ys.length) cs.length with
   | true=>afill place (over cs off ys) rest
   | false=>none
  | _,_=>none
inductive PRels (γ:Nat->Option G) (M:Mem):List (Nat×AV)->List (Nat×Value)->Prop
 | nil:PRels γ M [] []
 | cons {i:Nat} {x:AV} {v:Value} {xs:List (Nat×AV)} {vs:List (Nat×Value)} (h:ARel γ M x v) (t:PRels γ M xs vs):PRels γ M ((i,x)::xs) ((i,v)::vs)
theorem fill_sound (place:Nat->Option (Nat×Nat)):∀ (xs:List (Nat×AV)) (vs:List (Nat×Value)) (cs r:List AV) (cells:Array Value),
 afill place cs xs=some r->PRels γ M xs vs->CRel γ M cs cells->∃ cells',Instr.fill place cells vs=some cells'/\CRel γ M r cells':=by
 intro xs
 induction xs with
 | nil=>intro vs cs r cells h hp hc; cases hp; cases h; exact ⟨cells,rfl,hc⟩
 | cons x xs ih=>
  intro vs cs r cells h hp hc
  cases hp with
  | @cons i x v _ vs hv ht=>
   simp only [afill] at h
   cases hpl:place i with
   | none=>rw [hpl] at h; cases h
   | some ps=>
    obtain ⟨off,size⟩:=ps
    cases hcl:x.cells? with
    | none=>rw [hpl,hcl] at h; cases h
    | some ys=>
     rw [hpl,hcl] at h
     dsimp only at h
     split at h
     .rename_i hb
      rw [Bool.and_eq_true] at hb
      have h1:=Nat.eq_of_beq_eq_true hb.1
      have h2:=Nat.le_of_ble_eq_true hb.2
      have hcv:=cells?_rel hcl hv
      obtain ⟨hs,hr⟩:=hcv
      have hcond:(decide (v.cells.size≠size)||decide (off+v.cells.size > cells.size))=false:=by
       rw [Bool.or_eq_false_iff,decide_eq_false_iff_not,decide_eq_false_iff_not,hs,hc.1]; omega
      simp only [Instr.fill,hpl,hcond,Bool.false_eq_true,if_false]
      refine ih vs (over cs off ys) r _ h ht ?_
      obtain ⟨g1,g2⟩:=foldl_set off v.cells.toList 0 cells
      have e:(v.cells.zipIdx.foldl (fun cs x=>match x with | (c,j)=>cs.setIfInBounds (off+j) c) cells)=
       ((v.cells.toList.zipIdx 0).foldl (fun cs x=>cs.setIfInBounds (off+x.2) x.1) cells):=by
       rw [<-Array.foldl_toList]
       simp
      rw [e]
      have hlen:v.cells.toList.length=ys.length:=by simpa using hs
      refine ⟨by rw [g1,over_length h2]; exact hc.1,fun j hj=>?_⟩
      rw [over_length h2] at hj
      have hg:=g2 j (by rw [hlen,hc.1]; omega)
      rw [over_get h2,Array.getD_eq_getD_getElem?,hg,hlen]
      by_cases hcnd:off<=j/\j < off+ys.length
      .rw [if_pos hcnd,if_pos (by omega)]
       have:=hr (j - off) (by omega)
       rw [Array.getD_eq_getD_getElem?] at this
       simpa using this
      .rw [if_neg hcnd,if_neg (by omega)]
       have:=hc.2 j hj
       rw [Array.getD_eq_getD_getElem?] at this
       exact this
     .cases h
def zeroC (P:Program) (t:TypeId):Option (List AV):=
 match P.info? t with
 | some i=>match i.zero with
  | some z=>match z.cells.toList.all (·.oneCell') with
   | true=>some (z.cells.toList.map acst)
   | false=>none
  | none=>none
 | none=>none
theorem zeroC_spec {t:TypeId} {cs:List AV} (h:zeroC P t=some cs):∃ i z,P.info? t=some i/\i.zero=some z/\(∀ v ∈ z.cells.toList,v.oneCell'=true)/\cs=z.cells.toList.map acst:=by
 unfold zeroC at h
 cases hi:P.info? t with
 | none=>rw [hi] at h; cases h
 | some i=>
  rw [hi] at h
  dsimp only at h
  cases hz:i.zero with
  | none=>rw [hz] at h; cases h
  | some z=>
   rw [hz] at h
   dsimp only at h
   split at h
   .rename_i hall
    cases h
    exact ⟨i,z,rfl,hz,fun v hv=>(List.all_eq_true.1 hall) v hv,rfl⟩
   .cases h
theorem map_acst_rel (γ:Nat->Option G) (M:Mem) (vs:Array Value):CRel γ M (vs.toList.map acst) vs:=by
 refine ⟨by simp,fun j hj=>?_⟩
 have hj':j < vs.size:=by simpa using hj
 have e:(vs.toList.map acst).getD j .any=acst vs[j]:=by
  rw [List.getD_eq_getElem?_getD,List.getElem?_map,List.getElem?_eq_getElem (by simpa using hj')]; simp
 have e2:vs.getD j undef=vs[j]:=by rw [Array.getD_eq_getD_getElem?,Array.getElem?_eq_getElem hj']; rfl
 rw [e,e2]
 exact acst_rel γ M _
def structPlaces (P:Program) (fs:Array Field):Option (List (Nat×Nat)):=
 fs.toList.mapM fun f=>(sizeT P f.type).map fun n=>(f.offset,n)
def evBuild (P:Program) (t:TypeId) (ix:List Nat) (xs:List AV):Option (AV×Option Prop):=
 match zeroC P t,P.underlying t with
 | some z,some (.struct fs)=>match structPlaces P fs with
  | some ps=>(afill (fun i=>ps[i]?) z (ix.zip xs)).map fun cs=>(.agg cs,none)
  | none=>none
 | _,_=>none
theorem places_run:∀ (fs:List Field) (ps:List (Nat×Nat)),(fs.mapM fun f=>(sizeT P f.type).map fun n=>(f.offset,n))=some ps->
 ∀ w,(fs.mapM (m:=Sem) fun f=>do pure (f.offset,<-sizeOf f.type)).run P w=.ok ps w:=by
 intro fs
 induction fs with
 | nil=>intro ps h w; simp at h; subst h; rfl
 | cons f fs ih=>
  intro ps h w
  rw [List.mapM_cons] at h
  cases hf:sizeT P f.type with
  | none=>rw [hf] at h; cases h
  | some n=>
   rw [hf] at h
   simp only [Option.map_some,Option.pure_def,Option.bind_eq_bind,Option.bind_some] at h
   cases hr:(fs.mapM fun f=>(sizeT P f.type).map fun n=>(f.offset,n)) with
   | none=>rw [hr] at h; cases h
   | some ps'=>
    rw [hr] at h
    cases h
    rw [List.mapM_cons]
    simp only [Sem.run_bind,run_sizeOf hf,Result.andThen_ok,Sem.run_pure,ih ps' hr w]
theorem PRels.of {xs:List AV}:∀ {ix:List Nat} {ps:List (Nat×Operand)} {ρ:Operand->Value},ARels γ M xs (ps.map fun p=>ρ p.2)->ix=ps.map (·.1)->
 PRels γ M (ix.zip xs) (ps.map fun p=>(p.1,ρ p.2)):=by
 intro ix ps ρ h hi
 subst hi
 induction ps generalizing xs with
 | nil=>cases h; exact .nil
 | cons p ps ih=>cases h with | cons h t=>exact .cons h (ih t)
theorem evBuild_sound {t:TypeId} {ps:Array (Nat×Operand)} {xs:List AV} {r:AV} {ok:Option Prop} {ρ:Operand->Value}
 (h:evBuild P t (ps.toList.map (·.1)) xs=some (r,ok)) (hx:ARels γ M xs (ps.toList.map fun p=>ρ p.2)) (w:World):
 ∃ v,(Instr.build t (ps.map fun (i,x)=>(i,ρ x))).run P w=.ok v w/\ARel γ M r v:=by
 unfold evBuild at h
 cases hz:zeroC P t with
 | none=>rw [hz] at h; cases h
 | some z=>
  rw [hz] at h
  split at h
  .rename_i z' fs hz' hu
   cases hz'
   split at h
   .rename_i places hpl
    obtain ⟨cs,hf,he⟩:=map_some h
    cases he
    obtain ⟨i,zv,hi,hzv,_,rfl⟩:=zeroC_spec hz
    obtain ⟨cells',hc1,hc2⟩:=fill_sound (γ:=γ) (M:=M) (fun i=>places[i]?) _ _ _ _ zv.cells hf (PRels.of hx rfl) (map_acst_rel γ M zv.cells)
    have hrun:=places_run (P:=P) fs.toList places hpl w
    refine ⟨.agg cells',?_,.agg _ _ hc2.1 hc2.2⟩
    have e:(ps.map fun (x:Nat×Operand)=>(x.1,ρ x.2)).toList=ps.toList.map fun p=>(p.1,ρ p.2):=by simp
    have hm:(fs.mapM (m:=Sem) fun f=>do pure (f.offset,<-sizeOf f.type)).run P w=.ok places.toArray w:=by
     rw [Array.mapM_eq_mapM_toList,Sem.run_map,hrun]
     rfl
    simp only [Instr.build,Sem.run_bind,zeroValue,typeInfo,run_program,Result.andThen_ok,hi,Sem.run_pure,hzv,run_underlying hu,hm]
    have e3:(fun (i:Nat)=>places.toArray[i]?)=fun (i:Nat)=>places[i]?:=by funext i; simp
    rw [e3,e,hc1]
    rfl
   .cases h
  .cases h
end Go.Am
namespace Go.Am
open Go Go.RowKit
variable {P:Program} {γ γ':Nat->Option G} {M M':Mem} {C:Ctx} {s s':S} {a a':Act} {w w':World}
theorem MOk.fresh (h:MOk M w) {b:Nat} (hb:w.heap.size<=b):∀ o,M b o=none:=by
 intro o
 cases hm:M b o with
 | none=>rfl
 | some v=>
  have:=World.block_lt_of_cell? w ⟨b,o,none⟩ (h b o v hm)
  have:b < w.heap.size:=this
  omega
theorem MOk.alloc (h:MOk M w) (o:Obj):MOk M (w.alloc o):=by
 intro b i v hv
 have hc:=h b i v hv
 have hb:b < w.heap.size:=World.block_lt_of_cell? w ⟨b,i,none⟩ hc
 rw [World.cell?_of_block (w:=w) (Below.heap_alloc w o b hb)]; exact hc
theorem StG.cells (h:StG C γ M s a w) {d:Nat} (hd:dstOk C.nt (some d)=true) (hu:s.us d=false) {cs:List AV} {vs:Array Value} (e:TypeId)
 (hr:CRel γ M cs vs) (h1:∀ j,j < cs.length->(vs.getD j undef).oneCell'=true):
 StG C (upd γ d (some (.cell w.heap.size))) M { sl:=upd s.sl d (.ref d 0),ob:=upd s.ob d (some (.cells cs)),us:=upd s.us d true }
  (a.put (some d) (.pointer (some ⟨w.heap.size,0,none⟩))) (w.alloc (.cells vs e)):=by
 have hγ:GLe γ (upd γ d (some (.cell w.heap.size))):=by
  intro i g' hi
  by_cases e:i=d
  .subst e; rw [h.us i hu] at hi; cases hi
  .rw [upd_ne _ _ e]; exact hi
 refine h.birth hd hu (MLe.refl M) (by simp) (fun b hb=>⟨Below.heap_alloc w _ b hb,rfl⟩) (h.mem.alloc _) rfl rfl rfl (g:=.cell w.heap.size) ?_ ?_ (.ref d 0 _ (upd_same _ _ _))
 .intro b hb; cases hb; simp
 .exact ⟨w.heap.size,vs,e,upd_same _ _ _,heap_alloc_new w _,hr.1,fun j hj=>⟨(hr.2 j hj).mono hγ (MLe.refl M),h1 j hj⟩,h.mem.fresh (Nat.le_refl _)⟩
theorem StG.bldr (h:StG C γ M s a w) {d:Nat} (hd:dstOk C.nt (some d)=true) (hu:s.us d=false) (T:TypeId):
 StG C (upd γ d (some (.cell w.heap.size))) M { sl:=upd s.sl d (.ref d 0),ob:=upd s.ob d (some (.bldr T (.p .nil))),us:=upd s.us d true }
  (a.put (some d) (.pointer (some ⟨w.heap.size,0,none⟩))) (w.alloc (.cells #[.pointer none,.slice none 0 0] T)):=by
 refine h.birth hd hu (MLe.refl M) (by simp) (fun b hb=>⟨Below.heap_alloc w _ b hb,rfl⟩) (h.mem.alloc _) rfl rfl rfl (g:=.cell w.heap.size) ?_ ?_ (.ref d 0 _ (upd_same _ _ _))
 .intro b hb; cases hb; simp
 .exact ⟨w.heap.size,_,_,upd_same _ _ _,heap_alloc_new w _,.inl rfl,.p _ _ .nil,rfl,h.mem.fresh (Nat.le_refl _)⟩
theorem StG.bcv (h:StG C γ M s a w) {d:Nat} (hd:dstOk C.nt (some d)=true) (hu:s.us d=false) {e:TypeId} {l:List UInt8} {cur:Array Value} (hsz:w'.heap.size=w.heap.size+1)
 (hold:∀ j,j < w.heap.size->w'.heap[j]?=w.heap[j]?) (hnew:w'.heap[w.heap.size]?=some (.cells cur e (cur.size,cur.size+1))) (ht:cur.toList.take l.length=l.map byteV)
 (hc:l.length<=cur.size) (hm:l.length<=maxLen) (hos:w'.os=w.os) (htape:w'.tape=w.tape) (hout:w'.output=w.output):
 StG C (upd γ d (some (.arr (some w.heap.size) 1 l.length cur.size))) M { sl:=upd s.sl d (.arr d),ob:=upd s.ob d (some (.bcv e l)),us:=upd s.us d true }
  (a.put (some d) (arrV (some w.heap.size) l.length cur.size)) w':=by
 have hfresh:=h.mem.fresh (Nat.le_refl w.heap.size)
 refine h.birth hd hu (MLe.refl M) (by omega) (fun b hb=>⟨hold b hb,rfl⟩) ?_ hos htape hout (g:=.arr (some w.heap.size) 1 l.length cur.size) ?_ ?_ (.arr d _ _ _ _ (upd_same _ _ _))
 .intro b i v hv
  have hb:b < w.heap.size:=by
   rcases Nat.lt_or_ge b w.heap.size with h' | h'
   .exact h'
   .rw [h.mem.fresh h' i] at hv; cases hv
  rw [World.cell?_of_block (w:=w) (hold b hb)]; exact h.mem b i v hv
 .intro b hb; cases hb; omega
 .exact ⟨w.heap.size,cur,upd_same _ _ _,hnew,ht,hc,hm,hfresh⟩
def ObjRow (M:Mem) (o:AObj) (k n:Nat) (vs:List Value):Prop:=
 match o with
 | .barr _ _ l=>k=1/\n=l.length/\vs=l.map byteV
 | .larr _ _ k' R=>k=k'/\n=R.n/\∀ i j,i < n->j < k->∃ v,vs[i * k+j]?=some v/\PRel M (R.f i j) v
 | _=>False
def AObj.mu:AObj->Bool
 | .barr _ mu _=>mu
 | .larr _ mu _ _=>mu
 | _=>true
def AObj.elem:AObj->TypeId
 | .barr e _ _=>e
 | .larr e _ _ _=>e
 | _=>0
theorem OM.row {id:Nat} {o:AObj} {a:Option Nat} {k n cap:Nat} {vs:List Value} (hg:γ id=some (.arr a k n cap)) (hr:ObjRow M o k n vs)
 (hA:ArrOK M w o.elem o.mu k n vs a cap):OM γ M w id o:=by
 cases o with
 | cells cs=>exact hr.elim
 | bcv _ _=>exact hr.elim
 | bldr _ _=>exact hr.elim
 | raw _=>exact hr.elim
 | barr e mu l=>
  obtain ⟨rfl,rfl,rfl⟩:=hr
  exact ⟨a,cap,hg,hA⟩
 | larr e mu k' R=>
  obtain ⟨rfl,rfl,hf⟩:=hr
  exact ⟨a,cap,vs,hg,hf,hA⟩
theorem ObjRow.mono {o:AObj} {k n:Nat} {vs:List Value} (h:ObjRow M o k n vs) (hM:MLe M M'):ObjRow M' o k n vs:=by
 cases o with
 | cells cs=>exact h.elim
 | bcv _ _=>exact h.elim
 | bldr _ _=>exact h.elim
 | raw _=>exact h.elim
 | barr e mu l=>exact h
 | larr e mu k' R=>
  obtain ⟨h1,h2,h3⟩:=h
  exact ⟨h1,h2,fun i j hi hj=>let ⟨v,hv,hp⟩:=h3 i j hi hj; ⟨v,hv,hp.mono hM⟩⟩
def memRow (M:Mem) (mu:Bool) (g:Nat) (vs:List Value):Mem:=
 match mu with
 | true=>M
 | false=>upd M g (fun o=>vs[o]?)
theorem memRow_le {mu:Bool} {g:Nat} {vs:List Value} (h:∀ o v,M g o=some v->vs[o]?=some v):MLe M (memRow M mu g vs):=by
 intro b o v hv
 cases mu with
 | true=>exact hv
 | false=>
  simp only [memRow]
  by_cases e:b=g
  .subst e; rw [upd_same]; exact h o v hv
  .rw [upd_ne _ _ e]; exact hv
theorem memRow_ne {mu:Bool} {g b:Nat} {vs:List Value} (h:b≠g):memRow M mu g vs b=M b:=by
 cases mu with
 | true=>rfl
 | false=>exact upd_ne _ _ h
theorem StG.row (h:StG C γ M s a w) {d:Nat} (hd:dstOk C.nt (some d)=true) (hu:s.us d=false) {o:AObj} {k n cap:Nat} {vs:List Value}
 {cur:Array Value} (hw:w'.heap=w.heap.push (.cells cur o.elem)) (hos:w'.os=w.os) (htape:w'.tape=w.tape) (hout:w'.output=w.output)
 (hlen:vs.length=n * k) (hn:n<=cap) (hcm:cap<=maxLen) (hcur:cur.size=cap * k) (htake:cur.toList.take (n * k)=vs)
 (h1:∀ v ∈ vs,v.oneCell'=true) (hr:ObjRow M o k n vs):
 StG C (upd γ d (some (.arr (some w.heap.size) k n cap))) (memRow M o.mu w.heap.size vs) { sl:=upd s.sl d (.arr d),ob:=upd s.ob d (some o),us:=upd s.us d true }
  (a.put (some d) (arrV (some w.heap.size) n cap)) w':=by
 have hfresh:=h.mem.fresh (Nat.le_refl w.heap.size)
 have hM:MLe M (memRow M o.mu w.heap.size vs):=memRow_le fun o v hv=>by rw [hfresh] at hv; cases hv
 have hsz:w'.heap.size=w.heap.size+1:=by rw [hw]; simp
 have hnew:w'.heap[w.heap.size]?=some (.cells cur o.elem (0,0)):=by rw [hw]; simp
 have hold:∀ b,b < w.heap.size->w'.heap[b]?=w.heap[b]?:=fun b hb=>by rw [hw,Array.getElem?_push,if_neg (by omega)]
 have hvs:∀ (j:Nat) (u:Value),vs[j]?=some u->cur[j]?=some u:=by
  intro j u hu
  rw [<-htake,List.getElem?_take] at hu
  split at hu
  .simpa using hu
  .cases hu
 refine h.birth hd hu hM (by omega) (fun b hb=>⟨hold b hb,memRow_ne (by omega)⟩) ?_ hos htape hout (g:=.arr (some w.heap.size) k n cap) ?_ ?_ (.arr d _ _ _ _ (upd_same _ _ _))
 .intro b i v hv
  by_cases e:b=w.heap.size
  .subst e
   rw [cell_of_row w' _ i cur _ (0,0) hnew]
   cases hmu:o.mu with
   | true=>rw [hmu] at hv; simp only [memRow] at hv; rw [hfresh] at hv; cases hv
   | false=>rw [hmu] at hv; simp only [memRow] at hv; rw [upd_same] at hv; exact hvs i v hv
  .rw [memRow_ne e] at hv
   have hc:=h.mem b i v hv
   have hb:b < w.heap.size:=World.block_lt_of_cell? w ⟨b,i,none⟩ hc
   rw [World.cell?_of_block (w:=w) (hold b hb)]; exact hc
 .intro b hb; cases hb; omega
 .refine OM.row (upd_same _ _ _) (hr.mono hM) ⟨⟨hlen,.inr ⟨_,_,cur,rfl,Nat.zero_le _,hnew,hn,hcm,hcur,htake⟩⟩,h1,Nat.le_trans hn hcm,?_⟩
  intro g hg
  cases hg
  cases hmu:o.mu with
  | true=>simp only [if_true]; exact hfresh
  | false=>
   simp only [Bool.false_eq_true,if_false]
   intro i
   simp only [memRow]
   rw [upd_same]
def toPV:AV->Option PV
 | .p x=>some x
 | _=>none
def toByte:AV->Option UInt8
 | .p (.int .u8 n)=>some (UInt8.ofNat n.toNat)
 | _=>none
def isU8 (P:Program) (e:TypeId):Bool:=match P.underlying e with | some (.int .u8)=>true | _=>false
def allSome {α β:Type} (f:α->Option β):List α->Option (List β)
 | []=>some []
 | x::r=>match f x,allSome f r with
  | some y,some ys=>some (y::ys)
  | _,_=>none
theorem allSome_get {α β:Type} {f:α->Option β}:∀ {l:List α} {r:List β},allSome f l=some r->r.length=l.length/\∀ (i:Nat) (x:α),l[i]?=some x->∃ y,r[i]?=some y/\f x=some y:=by
 intro l
 induction l with
 | nil=>intro r h; cases h; exact ⟨rfl,fun i x hx=>by cases hx⟩
 | cons x l ih=>
  intro r h
  simp only [allSome] at h
  cases hf:f x with
  | none=>rw [hf] at h; cases h
  | some y=>
   cases hr:allSome f l with
   | none=>rw [hf,hr] at h; cases h
   | some ys=>
    rw [hf,hr] at h; cases h
    obtain ⟨h1,h2⟩:=ih hr
    refine ⟨by simp [h1],fun i z hz=>?_⟩
    cases i with
    | zero=>simp at hz; subst hz; exact ⟨y,by simp,hf⟩
    | succ i=>simpa using h2 i z (by simpa using hz)
def rowObj (P:Program) (e:TypeId) (mu:Bool) (k n:Nat) (cs:List AV):Option AObj:=
 match isU8 P e&&Nat.beq k 1 with
 | true=>(allSome toByte cs).map fun l=>.barr e mu l
 | false=>(allSome toPV cs).map fun l=>.larr e mu k (mkR (ecOf P 6 e) k n l)
theorem u8_byteV {n:Int} (h:IntKind.u8.has n):Value.int .u8 n=byteV (UInt8.ofNat n.toNat):=by
 simp [IntKind.has,IntKind.min,IntKind.max,IntKind.signed,IntKind.bits] at h
 unfold byteV
 congr 1
 simp
 omega
theorem rowObj_spec {e:TypeId} {mu:Bool} {k n:Nat} {cs:List AV} {o:AObj} (h:rowObj P e mu k n cs=some o) (hl:cs.length=n * k) {vs:Array Value} (hr:CRel γ M cs vs):
 o.elem=e/\o.mu=mu/\ObjRow M o k n vs.toList:=by
 unfold rowObj at h
 split at h
 .rename_i hk
  rw [Bool.and_eq_true] at hk
  have hk1:=Nat.eq_of_beq_eq_true hk.2
  subst hk1
  obtain ⟨l,hl',he⟩:=map_some h
  cases he
  obtain ⟨h1,h2⟩:=allSome_get hl'
  refine ⟨rfl,rfl,rfl,by omega,?_⟩
  apply List.ext_getElem?
  intro i
  rw [List.getElem?_map]
  by_cases hi:i < cs.length
  .obtain ⟨y,hy,hf⟩:=h2 i _ (List.getElem?_eq_getElem hi)
   have hrel:=hr.2 i hi
   have hvi:i < vs.size:=by rw [hr.1]; exact hi
   rw [List.getD_eq_getElem?_getD,List.getElem?_eq_getElem hi,Array.getD_eq_getD_getElem?,Array.getElem?_eq_getElem hvi] at hrel
   simp only [Option.getD_some] at hrel
   unfold toByte at hf
   split at hf
   .rename_i n' hx
    cases hf
    rw [hx] at hrel
    obtain ⟨e1,e2⟩:=hrel.int_inv
    rw [hy,Array.getElem?_toList,Array.getElem?_eq_getElem hvi,e1,u8_byteV e2]
    rfl
   .cases hf
  .have e0:vs.toList[i]?=none:=by rw [List.getElem?_eq_none]; rw [Array.length_toList,hr.1]; omega
   have e1:l[i]?=none:=by rw [List.getElem?_eq_none]; omega
   rw [e0,e1]; rfl
 .obtain ⟨l,hl',he⟩:=map_some h
  cases he
  obtain ⟨h1,h2⟩:=allSome_get hl'
  have hmk:=mkR_spec (M:=M) (ecOf P 6 e) k n l
  refine ⟨rfl,rfl,rfl,hmk.1.symm,?_⟩
  intro i j hi hj
  have hlt:i * k+j < cs.length:=by
   rw [hl]
   have:(i+1) * k<=n * k:=Nat.mul_le_mul_right k hi
   rw [Nat.add_mul,Nat.one_mul] at this
   omega
  obtain ⟨y,hy,hf⟩:=h2 _ _ (List.getElem?_eq_getElem hlt)
  have hrel:=hr.2 _ hlt
  have hvi:i * k+j < vs.size:=by rw [hr.1]; exact hlt
  rw [List.getD_eq_getElem?_getD,List.getElem?_eq_getElem hlt,Array.getD_eq_getD_getElem?,Array.getElem?_eq_getElem hvi] at hrel
  simp only [Option.getD_some] at hrel
  refine ⟨_,by rw [Array.getElem?_toList,Array.getElem?_eq_getElem hvi],?_⟩
  unfold toPV at hf
  split at hf
  .rename_i q hx
   cases hf
   rw [hx] at hrel
   refine hmk.2 i j hi hj _ ?_
   rw [List.getD_eq_getElem?_getD,hy]
   exact hrel.p_inv
  .cases hf
end Go.Am
namespace Go.Am
open Go Go.RowKit
variable {P:Program} {γ γ':Nat->Option G} {M M':Mem} {C:Ctx} {s s':S} {a a':Act} {w w':World}
def bytesT (P:Program) (t:TypeId):Option Nat:=(P.info? t).map (·.bytes)
def evBuildSlice (P:Program) (t n:Nat) (ix:List Nat) (xs:List AV):Option (AObj×Option Prop):=
 match sliceE P t with
 | some e=>match sizeT P e,zeroC P e with
  | some (k+1),some z=>match Nat.ble (n * (k+1)) 16777216 with
   | true=>match afill (fun i=>some (i * (k+1),k+1)) ((List.range (n * (k+1))).map fun i=>z.getD (i % z.length) .any) (ix.zip xs) with
    | some cs=>(rowObj P e false (k+1) n cs).map fun o=>(o,none)
    | none=>none
   | false=>none
  | _,_=>none
 | none=>none
def isZeroByte:PV->Bool
 | .int .u8 0=>true
 | _=>false
def evMakeSlice (P:Program) (t:TypeId):List AV->Option (AObj×Option Prop)
 | [.p (.int _ l),.p (.int _ c)]=>match sliceE P t with
  | some e=>match sizeT P e,zeroC P e,bytesT P e with
   | some 1,some [.p z],some by'=>match isU8 P e with
    | true=>match isZeroByte z with
     | true=>some (.barr e true (List.replicate l.toNat 0),some (0<=l/\l<=c/\(by':Int) * c<=281474976710656/\c<=9223372036854775807))
     | false=>none
    | false=>some (.larr e true 1 (repR (ecOf P 6 e) l.toNat z),some (0<=l/\l<=c/\(by':Int) * c<=281474976710656/\c<=9223372036854775807))
   | _,_,_=>none
  | none=>none
 | _=>none
def isU8E (P:Program) (e:TypeId):Bool:=match P.underlying e with | some (.int .u8)=>true | _=>false
def hasDesc (P:Program) (s:TypeId):Bool:=match P.underlying s with | some .string=>true | _=>false
def evBytesOf (P:Program) (sT d:TypeId):List AV->Option (AObj×Option Prop)
 | [.p (.str l)]=>match sliceE P d with
  | some e=>match isU8E P e&&hasDesc P sT with
   | true=>some (.bcv e l,none)
   | false=>none
  | none=>none
 | _=>none
def isBld (P:Program) (t:TypeId):Bool:=
 match P.underlying t with
 | some (.struct fs)=>match fs.toList with
  | [f,g]=>(match P.underlying f.type with | some (.pointer t')=>Nat.beq t t' | _=>false)&&(match P.underlying g.type with | some (.slice e)=>isU8E P e | _=>false)
  | _=>false
 | _=>false
def evB (P:Program) (op:Op) (xs:List AV):Option (AObj×Option Prop):=
 match op with
 | .alloc t=>match isBld P t with
  | true=>match zeroC P t with
   | some [.p (.plain (.pointer none)),.p .nil]=>some (.bldr t (.p .nil),none)
   | _=>none
  | false=>(zeroC P t).map fun cs=>(.cells cs,none)
 | .box _ _=>match xs with
  | [x]=>match x.cells? with
   | some cs=>match cs.all AV.one with
    | true=>some (.cells cs,none)
    | false=>none
   | none=>none
  | _=>none
 | .buildSlice t n ps=>evBuildSlice P t n (ps.toList.map (·.1)) xs
 | .makeSlice t _ _=>evMakeSlice P t xs
 | _=>none
def AObj.handle (d:Nat):AObj->AV
 | .cells _=>.ref d 0
 | .bldr _ _=>.ref d 0
 | _=>.arr d
def sbirth (s:S) (d:Nat) (o:AObj):S:={ sl:=upd s.sl d (o.handle d),ob:=upd s.ob d (some o),us:=upd s.us d true }
theorem over_full {cs:List AV} {vs:Array Value} (h:CRel γ M cs vs) (h1:cs.all AV.one=true):∀ j,j < cs.length->(vs.getD j undef).oneCell'=true:=by
 intro j hj
 have hr:=h.2 j hj
 refine hr.oneCell ?_
 rw [List.getD_eq_getElem?_getD,List.getElem?_eq_getElem hj]
 exact (List.all_eq_true.1 h1) _ (List.getElem_mem hj)
theorem zero_one {z:Value} (h:∀ v ∈ z.cells.toList,v.oneCell'=true):∀ j,j < (z.cells.toList.map acst).length->(z.cells.getD j undef).oneCell'=true:=by
 intro j hj
 have hj':j < z.cells.size:=by simpa using hj
 rw [Array.getD_eq_getD_getElem?,Array.getElem?_eq_getElem hj']
 exact h _ (by simp)
theorem zeros_rel {z:Value} (n:Nat) (γ:Nat->Option G) (M:Mem):
 CRel γ M ((List.range n).map fun i=>(z.cells.toList.map acst).getD (i % (z.cells.toList.map acst).length) .any) ((Array.range n).map (z.cells[· % z.cells.size]!)):=by
 refine ⟨by simp,fun j hj=>?_⟩
 have hj':j < n:=by simpa using hj
 have e1:((List.range n).map fun i=>(z.cells.toList.map acst).getD (i % (z.cells.toList.map acst).length) .any).getD j .any=(z.cells.toList.map acst).getD (j % z.cells.size) .any:=by
  rw [List.getD_eq_getElem?_getD,List.getElem?_map,List.getElem?_range hj']; simp
 have e2:((Array.range n).map (z.cells[· % z.cells.size]!)).getD j undef=z.cells[j % z.cells.size]!:=by
  rw [Array.getD_eq_getD_getElem?]; simp [hj']
 rw [e1,e2]
 by_cases hz:j % z.cells.size < z.cells.size
 .have:=(map_acst_rel γ M z.cells).2 (j % z.cells.size) (by simpa using hz)
  rw [getElem!_pos z.cells _ hz]
  rw [Array.getD_eq_getD_getElem?,Array.getElem?_eq_getElem hz] at this
  exact this
 .have e3:(z.cells.toList.map acst).getD (j % z.cells.size) .any=.any:=by
   rw [List.getD_eq_getElem?_getD,List.getElem?_eq_none (by simp; omega)]; rfl
  rw [e3]; exact .any _
theorem rowObj_nocells {e:TypeId} {mu:Bool} {k n:Nat} {cs:List AV} {o:AObj} (h:rowObj P e mu k n cs=some o):∀ d,o.handle d=.arr d:=by
 unfold rowObj at h
 split at h
 .obtain ⟨l,_,rfl⟩:=map_some h; exact fun d=>rfl
 .obtain ⟨l,_,rfl⟩:=map_some h; exact fun d=>rfl
theorem afill_length (place:Nat->Option (Nat×Nat)):∀ (xs:List (Nat×AV)) (cs r:List AV),afill place cs xs=some r->r.length=cs.length:=by
 intro xs
 induction xs with
 | nil=>intro cs r h; cases h; rfl
 | cons x xs ih=>
  intro cs r h
  obtain ⟨i,x⟩:=x
  simp only [afill] at h
  split at h
  .split at h
   .rename_i hb
    rw [Bool.and_eq_true] at hb
    rw [ih _ _ h,over_length (Nat.le_of_ble_eq_true hb.2)]
   .cases h
  .cases h
theorem evB_sound (hs:StG C γ M s a w) (o:Oper) {d:Nat} (hdst:o.dst=some d) (hd:dstOk C.nt (some d)=true) (hu:s.us d=false)
 {xs:List AV} {ob:AObj} {ok:Option Prop} (h:evB P o.op xs=some (ob,ok)) (hok:okP ok)
 {ρ:Operand->Value} (hx:ARels γ M xs (o.op.operands.toList.map ρ)):
 ∃ v w' γ' M',(execOp ρ o).run P w=.ok (.value v) w'/\StG C γ' M' (sbirth s d ob) (a.put (some d) v) w':=by
 obtain ⟨dst,op,type,pos,after,guard⟩:=o
 dsimp only at hx h hdst
 subst hdst
 cases op <;> simp only [evB,reduceCtorEq] at h <;> simp only [Op.operands,List.map_cons,List.map_nil] at hx
 case alloc t=>
  split at h
  .split at h
   .rename_i hz
    cases h
    obtain ⟨i,z,hi,hzv,h1,he⟩:=zeroC_spec hz
    obtain ⟨v0,v1,hcz⟩:∃ v0 v1,z.cells=#[v0,v1]:=by
     have hl:=congrArg List.length he
     simp at hl
     match hq:z.cells,hl with
     | ⟨[v0,v1]⟩,_=>exact ⟨v0,v1,rfl⟩
    have hrel:=map_acst_rel γ M z.cells
    rw [<-he] at hrel
    have r0:=hrel.2 0 (by simp)
    have r1:=hrel.2 1 (by simp)
    have hv0:v0=.pointer none:=by
     have:ARel γ M (.p (.plain (.pointer none))) v0:=by simpa [hcz] using r0
     cases this.p_inv; rfl
    have hv1:v1=.slice none 0 0:=by
     have:ARel γ M (.p .nil) v1:=by simpa [hcz] using r1
     cases this.p_inv; rfl
    subst hv0 hv1
    refine ⟨_,_,_,_,?_,hs.bldr hd hu t⟩
    simp [execOp,Instr.alloc,zeroValue,typeInfo,hi,hzv,newVar,newRow,hcz]
   .cases h
  obtain ⟨cs,hz,he⟩:=map_some h
  cases he
  obtain ⟨i,z,hi,hzv,h1,rfl⟩:=zeroC_spec hz
  refine ⟨_,_,_,_,?_,hs.cells hd hu t (map_acst_rel γ M z.cells) (zero_one h1)⟩
  simp [execOp,Instr.alloc,zeroValue,typeInfo,hi,hzv,newVar,newRow]
 case box t x=>
  cases hx with
  | cons hx ht=>
   cases ht with
   | nil=>
    rename_i u
    dsimp only at h
    cases hc:u.cells? with
    | none=>rw [hc] at h; cases h
    | some cs=>
     rw [hc] at h
     dsimp only at h
     cases hall:cs.all AV.one with
     | false=>rw [hall] at h; cases h
     | true=>
      rw [hall] at h
      cases h
      have hr:=cells?_rel hc hx
      refine ⟨_,_,_,_,?_,hs.cells hd hu t hr (over_full hr hall)⟩
      simp [execOp,Instr.box,newVar,newRow]
 case buildSlice t n ps=>
  unfold evBuildSlice at h
  split at h
  .rename_i e0 he
   split at h
   .rename_i k z hk hz
    split at h
    .rename_i hb
     have hb:=Nat.le_of_ble_eq_true hb
     split at h
     .rename_i cs hf
      obtain ⟨o',hro,he'⟩:=map_some h
      cases he'
      obtain ⟨i,zv,hi,hzv,h1,rfl⟩:=zeroC_spec hz
      have hx':ARels γ M xs (ps.toList.map fun p=>ρ p.2):=by simpa [Function.comp_def] using hx
      obtain ⟨cells',hc1,hc2⟩:=fill_sound (γ:=γ) (M:=M) (fun i=>some (i * (k+1),k+1)) _ _ _ _ _ hf (PRels.of hx' rfl) (zeros_rel (z:=zv) _ γ M)
      have hlen:cs.length=n * (k+1):=by rw [afill_length _ _ _ _ hf]; simp
      obtain ⟨q1,q2,q3⟩:=rowObj_spec (γ:=γ) (M:=M) hro hlen hc2
      have hsz:cells'.size=n * (k+1):=by rw [hc2.1,hlen]
      have hnm:n<=maxLen:=by
       have:n * 1<=n * (k+1):=Nat.mul_le_mul_left n (by omega)
       unfold maxLen; omega
      have hone:∀ v ∈ cells'.toList,v.oneCell'=true:=by
       intro v hv
       obtain ⟨j,hj,rfl⟩:=List.getElem_of_mem hv
       have hj':j < cells'.size:=by simpa using hj
       have hr:=hc2.2 j (by rw [<-hc2.1]; exact hj')
       rw [Array.getD_eq_getD_getElem?,Array.getElem?_eq_getElem hj'] at hr
       have:(cs.getD j .any).one=true:=by
        unfold rowObj at hro
        have hjc:j < cs.length:=by rw [<-hc2.1]; exact hj'
        split at hro
        .obtain ⟨l,hl,_⟩:=map_some hro
         obtain ⟨y,_,hf⟩:=(allSome_get hl).2 j _ (List.getElem?_eq_getElem hjc)
         rw [List.getD_eq_getElem?_getD,List.getElem?_eq_getElem hjc]
         unfold toByte at hf
         split at hf
         .rename_i hq; simp only [Option.getD_some]; rw [hq]; rfl
         .cases hf
        .obtain ⟨l,hl,_⟩:=map_some hro
         obtain ⟨y,_,hf⟩:=(allSome_get hl).2 j _ (List.getElem?_eq_getElem hjc)
         rw [List.getD_eq_getElem?_getD,List.getElem?_eq_getElem hjc]
         unfold toPV at hf
         split at hf
         .rename_i hq; simp only [Option.getD_some]; rw [hq]; rfl
         .cases hf
       exact hr.oneCell this
      have hrow:=hs.row (w':=w.alloc (.cells cells' e0)) hd hu (o:=ob) (k:=k+1) (n:=n) (cap:=n) (vs:=cells'.toList) (cur:=cells')
       (by rw [q1]; rfl) rfl rfl rfl (by simp [hsz]) (Nat.le_refl _) hnm hsz (by rw [List.take_of_length_le (by simp [hsz])]) hone q3
      have hh:ob.handle d=.arr d:=rowObj_nocells hro d
      have e1:sbirth s d ob={ sl:=upd s.sl d (.arr d),ob:=upd s.ob d (some ob),us:=upd s.us d true }:=by unfold sbirth; rw [hh]
      refine ⟨_,_,_,_,?_,by rw [e1]; exact hrow⟩
      have hle:¬ (n * (k+1) > 2 ^ 24):=by omega
      have hu':=sliceE_spec he
      have e:(ps.map fun (x:Nat×Operand)=>(x.1,ρ x.2)).toList=ps.toList.map fun p=>(p.1,ρ p.2):=by simp
      by_cases h0:n * (k+1)=0
      .have hc':Instr.fill (fun i=>some (i * (k+1),k+1)) #[] (ps.map fun (x:Nat×Operand)=>(x.1,ρ x.2)).toList=some cells':=by
        rw [e]
        have:=hc1
        rw [h0] at this
        simpa [Array.range_zero'] using this
       have hrun:(Instr.buildSlice t n (ps.map fun (x:Nat×Operand)=>(x.1,ρ x.2))).run P w=.ok (arrV (some w.heap.size) n n) (w.alloc (.cells cells' e0)):=by
        simp only [Instr.buildSlice,Sem.run_bind,run_underlying hu',Result.andThen_ok,run_sizeOf hk,h0,if_true,Array.range_zero',Array.map_empty,hc',newRow]
        rfl
       simp only [execOp,Sem.run_bind]
       rw [hrun]
       rfl
      .have hc':Instr.fill (fun i=>some (i * (k+1),k+1)) ((Array.range (n * (k+1))).map (zv.cells[· % zv.cells.size]!)) (ps.map fun (x:Nat×Operand)=>(x.1,ρ x.2)).toList=some cells':=by
        rw [e]; exact hc1
       have hrun:(Instr.buildSlice t n (ps.map fun (x:Nat×Operand)=>(x.1,ρ x.2))).run P w=.ok (arrV (some w.heap.size) n n) (w.alloc (.cells cells' e0)):=by
        simp only [Instr.buildSlice,Sem.run_bind,run_underlying hu',Result.andThen_ok,run_sizeOf hk,hle,if_false,h0,zeroValue,typeInfo,run_program,hi,Sem.run_pure,hzv,hc',newRow]
        rfl
       simp only [execOp,Sem.run_bind]
       rw [hrun]
       rfl
     .cases h
    .cases h
   .cases h
  .cases h
 case makeSlice t l c=>
  cases hx with
  | cons hx1 ht=>
   cases ht with
   | cons hx2 ht=>
    cases ht with
    | nil=>
     unfold evMakeSlice at h
     split at h
     .rename_i k1 l' k2 c' heq
      cases heq
      split at h
      .rename_i e he
       split at h
       .rename_i z by' hk hz hby
        have e1:=hx1.int_inv.1
        have e2:=hx2.int_inv.1
        obtain ⟨i,zv,hi,hzv,h1,hzz⟩:=zeroC_spec hz
        have hzsz:zv.cells.size=1:=by have:=congrArg List.length hzz; simpa using this.symm
        have hbi:i.bytes=by':=by unfold bytesT at hby; rw [hi] at hby; injection hby
        have hsi:i.size=1:=by unfold sizeT at hk; rw [hi] at hk; injection hk
        have key:∀ o':AObj,o'.elem=e->(∀ d,o'.handle d=.arr d)->(∀ u,zv.cells=#[u]->PRel M z u->ObjRow M o' 1 l'.toNat (List.replicate l'.toNat u))->
         (0<=l'/\l'<=c'/\(by':Int) * c'<=281474976710656/\c'<=9223372036854775807)->
         ∃ v w' γ' M',(execOp ρ ⟨some d,.makeSlice t l c,type,pos,after,guard⟩).run P w=.ok (.value v) w'/\StG C γ' M' (sbirth s d o') (a.put (some d) v) w':=by
         intro o' hel hha hrw hc
         obtain ⟨u,hu'⟩:∃ u,zv.cells=#[u]:=by
          match hq:zv.cells,hzsz with
          | ⟨[u]⟩,_=>exact ⟨u,rfl⟩
         have hzu:PRel M z u:=by
          have:=(map_acst_rel (fun _=>none) M zv.cells).2 0 (by simp [hu'])
          rw [<-hzz] at this
          simp [hu'] at this
          exact this.p_inv
         have hrun:=run_make (P:=P) w t e i zv (sliceE_spec he) hi hzv k1 k2 l' c' hc.1 hc.2.1 (by rw [hbi]; exact hc.2.2.1) hc.2.2.2
         have hmc:(madeCells zv.cells (c'.toNat * i.size)).toList=List.replicate c'.toNat u:=by
          rw [hsi,Nat.mul_one,hu',toList_madeCells_one]
         have hrow:=hs.row (w':=w.alloc (.cells (madeCells zv.cells (c'.toNat * i.size)) e)) hd hu (o:=o') (k:=1) (n:=l'.toNat) (cap:=c'.toNat) (vs:=List.replicate l'.toNat u) (cur:=madeCells zv.cells (c'.toNat * i.size))
          (by rw [hel]; rfl) rfl rfl rfl (by simp) (by omega) (by unfold maxLen; omega) (by rw [size_madeCells,hsi]) (by
           rw [hmc,List.take_replicate]; congr 1; omega) (by
           intro v hv; rw [List.mem_replicate] at hv; rw [hv.2]; exact hzu.oneCell) (hrw u hu' hzu)
         have e3:sbirth s d o'={ sl:=upd s.sl d (.arr d),ob:=upd s.ob d (some o'),us:=upd s.us d true }:=by unfold sbirth; rw [hha]
         refine ⟨_,_,_,_,?_,by rw [e3]; exact hrow⟩
         simp only [execOp,e1,e2,Sem.run_bind,hrun,Result.andThen_ok]
         rfl
        split at h
        .split at h
         .rename_i hzb
          cases h
          refine key _ rfl (fun d=>rfl) (fun u hu' hzu=>⟨rfl,by simp,?_⟩) hok
          unfold isZeroByte at hzb
          split at hzb
          .have:=hzu.int_inv.1
           rw [this,List.map_replicate]; rfl
          .cases hzb
         .cases h
        .cases h
         have hrp:=repR_spec (M:=M) (ecOf P 6 e) l'.toNat z
         refine key _ rfl (fun d=>rfl) (fun u hu' hzu=>⟨rfl,hrp.1.symm,fun i j hi hj=>⟨u,?_,hrp.2 i j hi hj u hzu⟩⟩) hok
         have:j=0:=by omega
         subst this
         rw [List.getElem?_replicate]; simp [hi]
       .cases h
      .cases h
     .cases h
theorem evBytes_sound (hs:StG C γ M s a w) (o:Oper) {d:Nat} (hdst:o.dst=some d) (hd:dstOk C.nt (some d)=true) (hu:s.us d=false) {sT d2:TypeId} {x:Operand} (hop:o.op=.convert sT d2 x)
 {xs:List AV} {ob:AObj} {ok:Option Prop} (h:evBytesOf P sT d2 xs=some (ob,ok)) {ρ:Operand->Value} (hx:ARels γ M xs (o.op.operands.toList.map ρ)):
 ∃ v w' γ' M',(execOp ρ o).run P w=.ok (.value v) w'/\StG C γ' M' (sbirth s d ob) (a.put (some d) v) w':=by
 obtain ⟨dst,op,type,pos,after,guard⟩:=o
 dsimp only at hx hdst hop
 subst hdst hop
 simp only [Op.operands,List.map_cons,List.map_nil] at hx
 unfold evBytesOf at h
 split at h
 .rename_i l
  split at h
  .rename_i e he
   split at h
   .rename_i hb
    cases h
    cases hx with
    | cons hx ht=>
     cases ht with
     | nil=>
      rw [Bool.and_eq_true] at hb
      have hu8:P.underlying e=some (.int .u8):=by
       have:=hb.1; unfold isU8E at this; split at this
       .assumption
       .cases this
      have hst:∃ u,P.underlying sT=some u:=by
       have:=hb.2; unfold hasDesc at this; split at this
       .exact ⟨_,by assumption⟩
       .cases this
      obtain ⟨u,hst⟩:=hst
      obtain ⟨hv,hm⟩:=hx.p_inv.str_inv
      have hrun:=Lib.run_convert_string_bytes (P:=P) w sT d2 e ⟨l.toArray⟩ hst (sliceE_spec he) hu8
      have hge:=grownCap_ge w l.length 0 e
      have hcs:(Lib.bytesCells w e ⟨l.toArray⟩).size=grownCap w l.length 0 e:=by
       simp [Lib.bytesCells,ByteArray.size]; omega
      refine ⟨_,_,_,_,?_,hs.bcv hd hu (l:=l) (e:=e) (w':=Lib.bytesWorld w e ⟨l.toArray⟩) (cur:=Lib.bytesCells w e ⟨l.toArray⟩) (Lib.bytesWorld_size w e _) (fun j hj=>Lib.bytesWorld_at_old w e _ j hj) (Lib.bytesWorld_at_new w e _) ?_ (by rw [hcs]; exact hge) hm rfl rfl rfl⟩
      .have e2:((⟨l.toArray⟩:ByteArray).size)=l.length:=by simp [ByteArray.size]
       simp only [execOp,hv,Sem.run_bind,hrun,Result.andThen_ok]
       rw [e2,<-hcs]
       rfl
      .simp [Lib.bytesCells,byteV]
   .cases h
  .cases h
 .cases h
end Go.Am
namespace Go.Am
open Go Go.RowKit
variable {P:Program} {γ γ':Nat->Option G} {M M':Mem} {C:Ctx} {s s':S} {a a':Act} {w w':World}
theorem run_append_room_row (t tx ty e:TypeId) (i:TypeInfo) (ht:P.underlying t=some (.slice e)) (hi:P.info? e=some i) (g sLen sCap:Nat) (cur:Array Value)
 (hg:w.heap[g]?=some (.cells cur e (0,0))) (x:Value) (n:Nat) (news:List Value) (hs:Src P i.size tx x n news w)
 (hroom:sLen+n<=sCap) (hfit:sLen * i.size+news.length<=cur.size):
 (Builtin.append_ #[t,tx] ty #[.slice (some ⟨g,0,none⟩) sLen sCap,x]).run P w=
  .ok (.slice (some ⟨g,0,none⟩) (sLen+n) sCap) (w.setRow g (cur.toList.take (sLen * i.size)++news++cur.toList.drop (sLen * i.size+news.length)).toArray):=by
 have hst:=run_storeCells_at P g (sLen * i.size) e news 0 cur w hg (by simpa using hfit) hs.one
 simp only [Nat.add_zero] at hst
 rcases hs.kind with ⟨e',hk⟩ | hk <;> simp [Builtin.append_,run_underlying ht,run_underlying hk,sizeOf,typeInfo,hi,hs.len,hroom,hs.cells,Addr.add_lit,hst]
structure Grew (w w':World) (a a':Option Nat):Prop where
 os:w'.os=w.os
 tape:w'.tape=w.tape
 output:w'.output=w.output
 size:w.heap.size<=w'.heap.size
 other:∀ b,b < w.heap.size->some b≠a->w'.heap[b]?=w.heap[b]?
 at_:a'=a\/∃ g,a'=some g/\w.heap.size<=g/\g < w'.heap.size/\∀ b,b < w.heap.size->w'.heap[b]?=w.heap[b]?
theorem run_append_row {e:TypeId} {mu:Bool} {k n:Nat} {vs:List Value} {ad:Option Nat} {cap:Nat} (hA:ArrOK M w e mu k n vs ad cap)
 (t tx ty:TypeId) (i:TypeInfo) (z:Value) (ht:P.underlying t=some (.slice e)) (hi:P.info? e=some i) (hz:i.zero=some z) (hk:i.size=k) (hzk:z.cells.size=k) (hk0:0 < k)
 (x:Value) (m:Nat) (news:List Value) (hs:Src P k tx x m news w) (h63:n+m<=maxLen) (hby:(n+m) * i.bytes<=140737488355328):
 ∃ a' cap' w',(Builtin.append_ #[t,tx] ty #[arrV ad n cap,x]).run P w=.ok (arrV a' (n+m) cap') w'/\
  w'.ownsRow 0 e k (arrV a' (n+m) cap') (n+m) (vs++news)/\Grew w w' ad a':=by
 subst hk
 have h63':((n+m:Nat):Int)<=9223372036854775807:=by unfold maxLen at h63; omega
 have hlenA:=hA.own.1
 have hln:news.length=m * i.size:=hs.newsLen
 have grow:∀ (base:Option Addr) (c:Nat),c < n+m->(Builtin.firstCells i.size n (.slice base n c)).run P w.drew=.ok vs.toArray w.drew->
  ∃ a' cap' w',(Builtin.append_ #[t,tx] ty #[.slice base n c,x]).run P w=.ok (arrV a' (n+m) cap') w'/\
  w'.ownsRow 0 e i.size (arrV a' (n+m) cap') (n+m) (vs++news)/\Grew w w' ad a':=by
  intro base c hc hold
  have hr:=run_append_grow_src (P:=P) w t tx ty e i z ht hi hz base n c vs hold x m news hs hc h63' (growslice_fits hc hby)
  have hge:=grownCap_ge w (n+m) c e
  have hcm:grownCap w (n+m) c e<=maxLen:=grownCap_le_maxLen w (n+m) c e h63
  refine ⟨some w.heap.size,_,_,hr,⟨by rw [List.length_append,hlenA,hln,Nat.add_mul],.inr ⟨w.heap.size,_,_,rfl,Nat.zero_le _,heap_alloc_new w.drew _,hge,hcm,?_,?_⟩⟩,
   ⟨rfl,rfl,rfl,by simp,fun b hb _=>heap_alloc_old w.drew _ hb,.inr ⟨w.heap.size,rfl,Nat.le_refl _,by simp,fun b hb=>heap_alloc_old w.drew _ hb⟩⟩⟩
  .simp only [Array.size_append,List.size_toArray,size_zeroCells,hzk,List.length_append,hlenA,hln,<-Nat.add_mul]
   congr 1
   omega
  .simp only [Array.toList_append]
   have:(vs++news).length=(n+m) * i.size:=by rw [List.length_append,hlenA,hln,Nat.add_mul]
   rw [<-this]
   exact List.take_left
 rcases hA.own.2 with ⟨hv,hn⟩ | ⟨g,cap',cur,hv,_,hg,hnc,hcm,hcs,htake⟩
 .subst hn
  have hx:vs=[]:=List.eq_nil_of_length_eq_zero (by simpa using hlenA)
  subst hx
  have had:ad=none/\cap=0:=by
   cases ad with
   | none=>simp [arrV] at hv; exact ⟨rfl,hv⟩
   | some g=>simp [arrV] at hv
  obtain ⟨rfl,rfl⟩:=had
  by_cases hm:m=0
  .subst hm
   have hnw:news=[]:=List.eq_nil_of_length_eq_zero (by simpa using hln)
   subst hnw
   refine ⟨none,0,w,?_,⟨by simp,.inl ⟨rfl,rfl⟩⟩,⟨rfl,rfl,rfl,Nat.le_refl _,fun _ _ _=>rfl,.inl rfl⟩⟩
   rcases hs.kind with ⟨e',hk⟩ | hk <;> simp [Builtin.append_,arrV,run_underlying ht,run_underlying hk,sizeOf,typeInfo,hi,hs.len,hs.cells]
  .exact grow none 0 (by omega) (by simp [Builtin.firstCells])
 .have had:ad=some g/\cap=cap':=by
   cases ad with
   | none=>simp [arrV] at hv
   | some g'=>simp [arrV] at hv; exact ⟨by rw [hv.1],hv.2⟩
  obtain ⟨rfl,rfl⟩:=had
  by_cases hroom:n+m<=cap
  .have hfit:n * i.size+news.length<=cur.size:=by rw [hln,hcs,<-Nat.add_mul]; exact Nat.mul_le_mul_right _ hroom
   have hr:=run_append_room_row (P:=P) t tx ty e i ht hi g n cap cur hg x m news hs hroom hfit
   refine ⟨some g,cap,_,hr,⟨by rw [List.length_append,hlenA,hln,Nat.add_mul],.inr ⟨g,cap,_,rfl,Nat.zero_le _,setRow_heap w g cur _ e _ hg,hroom,hcm,?_,?_⟩⟩,
    ⟨rfl,rfl,rfl,by simp,fun b _ hb=>setRow_other w g b _ (fun e=>hb (by rw [e])),.inl rfl⟩⟩
   .simp only [List.size_toArray,List.length_append,List.length_take,List.length_drop,Array.length_toList]
    omega
   .rw [htake]
    have:(vs++news).length=(n+m) * i.size:=by rw [List.length_append,hlenA,hln,Nat.add_mul]
    rw [<-this]
    exact List.take_left
  .refine grow (some ⟨g,0,none⟩) cap (by omega) ?_
   have hc:∀ j u,vs[j]?=some u->w.drew.cell? ((⟨g,0,none⟩:Addr).add j)=some u:=fun j u hu=>by
    have:=hA.cell j u hu
    rw [addr_add,Nat.zero_add]
    simpa using this
   exact run_firstCells_some (P:=P) w.drew i.size n ⟨g,0,none⟩ n cap vs hlenA hc
def aSrcB (P:Program) (ob:Nat->Option AObj) (tx:TypeId):AV->Option (List UInt8)
 | .p .nil=>bool? (isSliceT P tx) []
 | .p (.bytes l)=>bool? (isSliceT P tx) l
 | .p (.str l)=>bool? (isStrT P tx) l
 | .arr id=>match ob id with
  | some (.barr _ _ l)=>bool? (isSliceT P tx) l
  | _=>none
 | _=>none
def aSrcL (P:Program) (ob:Nat->Option AObj) (tx:TypeId) (k:Nat):AV->Option Rows
 | .p .nil=>bool? (isSliceT P tx) (.fn 0 fun _ _=>.bad)
 | .p (.list k' R)=>bool? (isSliceT P tx&&Nat.beq k k') R
 | .arr id=>match ob id with
  | some (.larr _ _ k' R)=>bool? (isSliceT P tx&&Nat.beq k k') R
  | _=>none
 | _=>none
theorem src_slice {k:Nat} {tx:TypeId} (ht:isSliceT P tx=true) {ad:Addr} {n cap:Nat} {news:List Value} (hl:news.length=n * k)
 (hc:∀ j u,news[j]?=some u->w.cell? (ad.add j)=some u) (h1:∀ u ∈ news,u.oneCell'=true):Src P k tx (.slice (some ad) n cap) n news w:=by
 obtain ⟨e,he⟩:=isSliceT_spec ht
 exact Src.ofSlice w he ad n cap news hl hc h1
theorem byteV_one (l:List UInt8):∀ u ∈ l.map byteV,u.oneCell'=true:=by
 intro u hu
 obtain ⟨c,_,rfl⟩:=List.mem_map.1 hu
 rfl
theorem aSrcB_sound (hs:StG C γ M s a w) {tx:TypeId} {y:AV} {l:List UInt8} (h:aSrcB P s.ob tx y=some l) {v:Value} (hy:ARel γ M y v):
 Src P 1 tx v l.length (l.map byteV) w:=by
 have nilS:∀ {ht:isSliceT P tx=true},Src P 1 tx (.slice none 0 0) 0 [] w:=fun {ht}=>by
  obtain ⟨e,he⟩:=isSliceT_spec ht
  exact Src.ofNil w he 0
 cases y with
 | p q=>
  cases q with
  | nil=>
   obtain ⟨ht,rfl⟩:=bool?_some h
   cases hy.p_inv
   exact nilS (ht:=ht)
  | bytes l'=>
   obtain ⟨ht,rfl⟩:=bool?_some h
   rcases bytes_inv hy.p_inv with ⟨rfl,rfl⟩ | ⟨b,off,cap,rfl,hm,hc,hM⟩
   .exact nilS (ht:=ht)
   .refine src_slice ht (by simp) (fun j u hu=>?_) (byteV_one _)
    rw [addr_add]
    rw [List.getElem?_map] at hu
    cases hc':l'[j]? with
    | none=>rw [hc'] at hu; cases hu
    | some c=>rw [hc'] at hu; cases hu; exact hs.mem _ _ _ (hM j c hc')
  | str l'=>
   obtain ⟨ht,rfl⟩:=bool?_some h
   obtain ⟨rfl,_⟩:=hy.str_inv
   have:=Src.ofString (P:=P) w (isStrT_spec ht) ⟨l'.toArray⟩
   have e1:byteCells ⟨l'.toArray⟩=l'.map byteV:=rfl
   rw [e1] at this
   exact this
  | _=>cases h
 | arr id=>
  dsimp only [aSrcB] at h
  cases ho:s.ob id with
  | none=>rw [ho] at h; cases h
  | some o=>
   rw [ho] at h
   cases o with
   | barr e mu l'=>
    obtain ⟨ht,rfl⟩:=bool?_some h
    obtain ⟨ad,k,n,cap,hg,rfl⟩:=hy.arr_inv
    obtain ⟨a2,cap2,hg',hA⟩:=hs.ob id _ ho
    rw [hg] at hg'; cases hg'
    cases ad with
    | none=>
     have h0:=hA.none
     have hl:l'=[]:=List.eq_nil_of_length_eq_zero h0.1
     subst hl
     rw [h0.2]
     exact nilS (ht:=ht)
    | some g=>
     refine src_slice ht (by simp) (fun j u hu=>?_) (byteV_one _)
     rw [addr_add,Nat.zero_add]
     exact hA.cell j u hu
   | _=>cases h
 | _=>cases h
theorem aSrcL_sound (hs:StG C γ M s a w) {tx:TypeId} {y:AV} {k:Nat} {R:Rows} (h:aSrcL P s.ob tx k y=some R) {v:Value} (hy:ARel γ M y v):
 ∃ news,Src P k tx v R.n news w/\∀ i j,i < R.n->j < k->∃ u,news[i * k+j]?=some u/\PRel M (R.f i j) u:=by
 have nilS:∀ {ht:isSliceT P tx=true},Src P k tx (.slice none 0 0) 0 [] w:=fun {ht}=>by
  obtain ⟨e,he⟩:=isSliceT_spec ht
  exact Src.ofNil w he 0
 cases y with
 | p q=>
  cases q with
  | nil=>
   obtain ⟨ht,he⟩:=bool?_some h
   cases he
   cases hy.p_inv
   exact ⟨[],nilS (ht:=ht),fun i j hi _=>absurd hi (Nat.not_lt_zero _)⟩
  | list k' R'=>
   obtain ⟨ht,he⟩:=bool?_some h
   cases he
   rw [Bool.and_eq_true] at ht
   have hk:=Nat.eq_of_beq_eq_true ht.2
   subst hk
   cases hy.p_inv with
   | listNil k R h0=>exact ⟨[],by rw [h0]; exact nilS (ht:=ht.1),fun i j hi _=>by omega⟩
   | list k R b off cap g hm hc hM hf=>
    generalize hn:R.n=n at hm hc hM hf ⊢
    have hdiv:∀ q,q < n * k->q / k < n/\q % k < k/\q / k * k+q % k=q:=by
     intro q hq
     have hk0:0 < k:=by
      rcases Nat.eq_zero_or_pos k with h0 | h0
      .subst h0; simp at hq
      .exact h0
     exact ⟨(Nat.div_lt_iff_lt_mul hk0).2 hq,Nat.mod_lt _ hk0,Nat.div_add_mod' q k⟩
    refine ⟨(List.range (n * k)).map (fun q=>g (q / k) (q % k)),src_slice ht.1 (by simp) (fun j u hu=>?_) (fun u hu=>?_),fun i j hi hj=>?_⟩
    .rw [addr_add]
     rw [List.getElem?_map] at hu
     by_cases hj:j < n * k
     .rw [List.getElem?_range hj] at hu
      cases hu
      obtain ⟨h1,h2,h3⟩:=hdiv j hj
      have:=hs.mem _ _ _ (hM _ _ h1 h2)
      rw [Nat.add_assoc,h3] at this
      exact this
     .rw [List.getElem?_eq_none (by simp; omega)] at hu; cases hu
    .obtain ⟨q,hq,rfl⟩:=List.mem_map.1 hu
     have hq':q < n * k:=by simpa using hq
     obtain ⟨h1,h2,h3⟩:=hdiv q hq'
     exact (hf _ _ h1 h2).oneCell
    .have hlt:i * k+j < n * k:=by
      have:(i+1) * k<=n * k:=Nat.mul_le_mul_right k hi
      rw [Nat.add_mul,Nat.one_mul] at this
      omega
     have hk0:0 < k:=by omega
     refine ⟨g i j,?_,hf i j hi hj⟩
     rw [List.getElem?_map,List.getElem?_range hlt]
     have e1:(i * k+j) / k=i:=by rw [Nat.mul_comm,Nat.mul_add_div hk0,Nat.div_eq_of_lt hj,Nat.add_zero]
     have e2:(i * k+j) % k=j:=by rw [Nat.mul_comm,Nat.mul_add_mod,Nat.mod_eq_of_lt hj]
     simp [e1,e2]
  | _=>cases h
 | arr id=>
  dsimp only [aSrcL] at h
  cases ho:s.ob id with
  | none=>rw [ho] at h; cases h
  | some o=>
   rw [ho] at h
   cases o with
   | larr e mu k' R=>
    obtain ⟨ht,he⟩:=bool?_some h
    cases he
    rw [Bool.and_eq_true] at ht
    have hk:=Nat.eq_of_beq_eq_true ht.2
    subst hk
    obtain ⟨ad,k',n',cap,hg,rfl⟩:=hy.arr_inv
    obtain ⟨a2,cap2,vs,hg',hv,hA⟩:=hs.ob id _ ho
    rw [hg] at hg'; cases hg'
    cases ad with
    | none=>
     have h0:=hA.none
     obtain ⟨h1,rfl⟩:=h0
     rw [h1]
     exact ⟨[],nilS (ht:=ht.1),fun i j hi _=>absurd hi (Nat.not_lt_zero _)⟩
    | some g=>
     refine ⟨vs,src_slice ht.1 hA.len_vs (fun j u hu=>?_) hA.one,hv⟩
     rw [addr_add,Nat.zero_add]
     exact hA.cell j u hu
   | _=>cases h
 | _=>cases h
end Go.Am
namespace Go.Am
open Go Go.RowKit
variable {P:Program} {γ γ':Nat->Option G} {M M':Mem} {C:Ctx} {s s':S} {a a':Act} {w w':World}
def aBase (ob:Nat->Option AObj) (e:TypeId):AV->Option (Option Nat×Option AObj)
 | .p .nil=>some (none,none)
 | .arr id=>match ob id with
  | some o=>bool? (Nat.beq o.elem e) (some id,some o)
  | none=>none
 | _=>none
def evAppend (P:Program) (ob:Nat->Option AObj) (t tx:TypeId):List AV->Option (AObj×Option Nat×Option Prop)
 | [x,y]=>match sliceE P t with
  | some e=>match sizeT P e,bytesT P e,zeroC P e,aBase ob e x with
   | some (k'+1),some (b'+1),some z,some (old,bo)=>match Nat.beq z.length (k'+1) with
    | true=>match isU8 P e&&Nat.beq (k'+1) 1 with
     | true=>match bo,aSrcB P ob tx y with
      | none,some l=>some (.barr e false l,old,some (l.length * (b'+1)<=140737488355328))
      | some (.barr _ mu l0),some l=>some (.barr e mu (l0++l),old,some ((l0.length+l.length) * (b'+1)<=140737488355328))
      | _,_=>none
     | false=>match bo,aSrcL P ob tx (k'+1) y with
      | none,some R=>some (.larr e false (k'+1) R,old,some (R.n * (b'+1)<=140737488355328))
      | some (.larr _ mu k0 R0),some R=>match Nat.beq k0 (k'+1) with
       | true=>some (.larr e mu (k'+1) (catR R0 R),old,some ((R0.n+R.n) * (b'+1)<=140737488355328))
       | false=>none
      | _,_=>none
    | false=>none
   | _,_,_,_=>none
  | none=>none
 | _=>none
def delO (ob:Nat->Option AObj):Option Nat->Nat->Option AObj
 | some id=>upd ob id none
 | none=>ob
def sappend (s:S) (d:Nat) (old:Option Nat) (o:AObj):S:=
 { sl:=upd s.sl d (.arr d),ob:=upd (delO s.ob old) d (some o),us:=upd s.us d true }
theorem delO_none {ob:Nat->Option AObj} {old:Option Nat} {i:Nat} (h:delO ob old i≠none):delO ob old i=ob i/\some i≠old:=by
 cases old with
 | none=>exact ⟨rfl,by simp⟩
 | some id=>
  unfold delO at *
  by_cases e:i=id
  .subst e; dsimp only at h; rw [upd_same] at h; exact absurd rfl h
  .dsimp only at *; exact ⟨upd_ne _ _ e,by simp [e]⟩
def memRowO (M:Mem) (mu:Bool) (ad:Option Nat) (vs:List Value):Mem:=
 match ad with
 | some g=>memRow M mu g vs
 | none=>M
theorem StG.appendRow (h:StG C γ M s a w) {d:Nat} (hd:dstOk C.nt (some d)=true) (hu:s.us d=false) {old:Option Nat} {o:AObj}
 {k n m cap cap':Nat} {vs news:List Value} {ad ad':Option Nat}
 (hold:match old with | some id=>∃ oo,s.ob id=some oo/\γ id=some (.arr ad k n cap)/\oo.mu=o.mu | none=>ad=none)
 (hA:ArrOK M w o.elem o.mu k n vs ad cap)
 (hown:w'.ownsRow 0 o.elem k (arrV ad' (n+m) cap') (n+m) (vs++news)) (hg:Grew w w' ad ad')
 (h1:∀ u ∈ news,u.oneCell'=true) (hm:n+m<=maxLen) (hr:ObjRow M o k (n+m) (vs++news)):
 ∃ γ' M',StG C γ' M' (sappend s d old o) (a.put (some d) (arrV ad' (n+m) cap')) w':=by
 have hfresh:=h.mem.fresh (Nat.le_refl w.heap.size)
 have hmemle:∀ g,ad'=some g->∀ q v,M g q=some v->(vs++news)[q]?=some v:=by
  intro g hg' q v hv
  rcases hg.at_ with he | ⟨g2,he,hge,_,_⟩
  .rw [he] at hg'
   have:=hA.mem g hg'
   cases hmu:o.mu with
   | true=>rw [hmu] at this; simp only [if_true] at this; rw [this q] at hv; cases hv
   | false=>
    rw [hmu] at this
    simp only [Bool.false_eq_true,if_false] at this
    rw [this q] at hv
    rw [List.getElem?_append_left]
    .exact hv
    .rcases Nat.lt_or_ge q vs.length with hl | hl
     .exact hl
     .rw [List.getElem?_eq_none hl] at hv; cases hv
  .rw [he] at hg'; cases hg'
   rw [h.mem.fresh hge] at hv; cases hv
 let M':Mem:=memRowO M o.mu ad' (vs++news)
 have hM:MLe M M':=by
  cases had:ad' with
  | none=>simp only [M',had,memRowO]; exact MLe.refl M
  | some g=>simp only [M',had,memRowO]; exact memRow_le (hmemle g had)
 have hMne:∀ b,ad'≠some b->M' b=M b:=by
  intro b hb
  cases had:ad' with
  | none=>simp only [M',had,memRowO]
  | some g=>simp only [M',had,memRowO]; exact memRow_ne (fun e=>hb (by rw [had,e]))
 let γ':=upd γ d (some (.arr ad' k (n+m) cap'))
 have hγ:GLe γ γ':=by
  intro i g' hi
  by_cases e:i=d
  .subst e; rw [h.us i hu] at hi; cases hi
  .show upd γ d _ i=_; rw [upd_ne _ _ e]; exact hi
 have hdo:s.ob d=none:=by
  cases hq:s.ob d with
  | none=>rfl
  | some o'=>obtain ⟨g,hg⟩:=(h.ob d o' hq).ghost; rw [h.us d hu] at hg; cases hg
 have hother:∀ i g b,delO s.ob old i≠none->γ i=some g->g.blk=some b->b < w.heap.size/\some b≠ad:=by
  intro i g b hi hgi hb
  obtain ⟨e1,e2⟩:=delO_none hi
  rw [e1] at hi
  have hlt:=(h.lo i g b hi hgi hb).2
  refine ⟨hlt,fun e=>?_⟩
  cases old with
  | none=>simp only at hold; rw [hold] at e; cases e
  | some id=>
   obtain ⟨oo,ho,hgo,_⟩:=hold
   have:=h.sep i id g _ b hi (by rw [ho]; simp) hgi hgo hb (by rw [<-e]; rfl)
   exact e2 (by rw [this])
 have hadlt:∀ g,ad=some g->(C.w0.heap.size<=g\/C.own g)/\g < w.heap.size:=by
  intro g hg'
  cases old with
  | none=>simp only at hold; rw [hold] at hg'; cases hg'
  | some id=>
   obtain ⟨oo,ho,hgo,_⟩:=hold
   exact h.lo id _ g (by rw [ho]; simp) hgo hg'
 have hcell:∀ g,ad'=some g->∀ q u,(vs++news)[q]?=some u->w'.cell? ⟨g,q,none⟩=some u:=by
  intro g hg' q u hq
  subst hg'
  have:=hown.cells (g:=g) rfl q u hq
  rw [addr_add,Nat.zero_add] at this; exact this
 refine ⟨γ',M',?_⟩
 refine h.master (s':=sappend s d old o) hγ hM
  (put_rel (dst:=some d) (by rw [h.nt]; exact hd) (fun t=>(h.sl t).mono hγ hM) (.arr d _ _ _ _ (upd_same _ _ _))) (by rw [put_size]; exact h.nt) (by rw [put_defers]; exact h.df) d
  ?_ (fun i hi=>upd_ne _ _ hi) ?_ ?_ ?_ ?_ ?_ hg.size ?_ ?_ ?_
 .intro i hi
  show upd (delO s.ob old) d _ i=none\/upd (delO s.ob old) d _ i=s.ob i
  rw [upd_ne _ _ hi]
  rcases Classical.em (delO s.ob old i=none) with e | e
  .exact .inl e
  .exact .inr (delO_none e).1
 .intro i hi
  have hi':upd s.us d true i=false:=hi
  by_cases e:i=d
  .subst e; rw [upd_same] at hi'; cases hi'
  .rw [upd_ne _ _ e] at hi'; exact ⟨hi',e⟩
 .intro o' ho'
  have ho':upd (delO s.ob old) d (some o) d=some o':=ho'
  rw [upd_same] at ho'; cases ho'
  refine OM.row (upd_same _ _ _) (hr.mono hM) ⟨hown,?_,hm,?_⟩
  .intro v hv
   rw [List.mem_append] at hv
   exact hv.elim (hA.one v) (h1 v)
  .intro g hg'
   simp only [M',hg',memRowO]
   cases hmu:o.mu with
   | true=>
    simp only [if_true,memRow]
    intro q
    cases hq:M g q with
    | none=>rfl
    | some v=>
     rcases hg.at_ with he | ⟨g2,he,hge,_,_⟩
     .rw [he] at hg'
      have:=hA.mem g hg'
      rw [hmu] at this; simp only [if_true] at this
      rw [this q] at hq; cases hq
     .rw [he] at hg'; cases hg'
      rw [h.mem.fresh hge] at hq; cases hq
   | false=>
    simp only [Bool.false_eq_true,if_false,memRow]
    intro q; rw [upd_same]
 .intro i g b hi hob hgi hb
  have hob:upd (delO s.ob old) d (some o) i≠none:=hob
  rw [upd_ne _ _ hi] at hob
  obtain ⟨h2,h3⟩:=hother i g b hob hgi hb
  refine ⟨hg.other b h2 h3,hMne b fun e=>?_⟩
  rcases hg.at_ with he | ⟨g2,he,hge,_,_⟩
  .rw [he] at e; exact h3 e.symm
  .rw [he] at e; cases e; omega
 .intro i g1 g2 b hi hob _ hg1 hg2 hb1 hb2
  have hob:upd (delO s.ob old) d (some o) i≠none:=hob
  rw [upd_ne _ _ hi] at hob
  obtain ⟨h2,h3⟩:=hother i g1 b hob hg1 hb1
  have hg2:upd γ d (some (.arr ad' k (n+m) cap')) d=some g2:=hg2
  rw [upd_same] at hg2; cases hg2
  have hb2:ad'=some b:=hb2
  rcases hg.at_ with he | ⟨g3,he,hge,_,_⟩
  .rw [he] at hb2; exact h3 hb2.symm
  .rw [he] at hb2; cases hb2; omega
 .intro g b _ hg' hb
  have hg':upd γ d (some (.arr ad' k (n+m) cap')) d=some g:=hg'
  rw [upd_same] at hg'; cases hg'
  have hb:ad'=some b:=hb
  rcases hg.at_ with he | ⟨g3,he,hge,hlt,_⟩
  .rw [he] at hb
   have:=hadlt b hb
   exact ⟨this.1,Nat.lt_of_lt_of_le this.2 hg.size⟩
  .rw [he] at hb; cases hb
   exact ⟨.inl (Nat.le_trans h.fr.size hge),hlt⟩
 .intro b q v hv
  by_cases e:ad'=some b
  .have hv':=hv
   cases hmu:o.mu with
   | true=>
    simp only [M',e,hmu,memRow,memRowO] at hv'
    exact hcell b e q v (hmemle b e q v hv')
   | false=>
    simp only [M',e,hmu,memRow,memRowO] at hv'
    rw [upd_same] at hv'
    exact hcell b e q v hv'
  .rw [hMne b e] at hv
   have hc:=h.mem b q v hv
   have hb:b < w.heap.size:=World.block_lt_of_cell? w ⟨b,q,none⟩ hc
   by_cases e2:some b=ad
   . -- the old row's block,left behind
    rcases hg.at_ with he | ⟨g3,he,hge,hlt,hall⟩
    .exact absurd (he.trans e2.symm) e
    .rw [World.cell?_of_block (w:=w) (hall b hb)]; exact hc
   .rw [World.cell?_of_block (w:=w) (hg.other b hb e2)]; exact hc
 .intro b hb hno
  refine hMne b fun e=>?_
  rcases hg.at_ with he | ⟨g3,he,hge,_,_⟩
  .rw [he] at e
   have:=(hadlt b e).1
   rcases this with h2 | h2
   .omega
   .exact hno h2
  .rw [he] at e; cases e
   have:=h.fr.size
   omega
 .have hf:=h.fr
  refine ⟨hg.os.trans hf.os,hg.tape.trans hf.tape,hg.output.trans hf.output,Nat.le_trans hf.size hg.size,fun b hb hno=>?_⟩
  have hlt:b < w.heap.size:=Nat.lt_of_lt_of_le hb hf.size
  rw [hg.other b hlt ?_]
  .exact hf.block b hb hno
  .intro e
   have:=(hadlt b e.symm).1
   rcases this with h2 | h2
   .omega
   .exact hno h2
end Go.Am
