/-
  An abstract machine over texts and its soundness; no condition of its own.
-/
import Derived.WalkKit
import Derived.CallsIn
import Derived.OrdersIn
import Derived.Deep.AppendSrc
import Derived.OpenShut
import Derived.Laws.StructEq
set_option linter.unusedVariables false
noncomputable section
/-! What the cells of a slice say, as plain data: by codes. -/
namespace Go.Am
open Go
inductive zd7 where
 | mk (type:List UInt8) (params:List (List UInt8×List UInt8)) (enc:List UInt8) (attach:Bool) (head:Int) (frm:Int) (til:Int) (kids:List zd7)
 deriving Inhabited
inductive zh0 where
 | mk (kind:Int) (num:Int) (text:List UInt8) (keys:List (List UInt8)) (kids:List zh0)
 deriving Inhabited
def zd7.type:zd7->List UInt8|.mk a _ _ _ _ _ _ _=>a
def zd7.params:zd7->List (List UInt8×List UInt8)|.mk _ a _ _ _ _ _ _=>a
def zd7.enc:zd7->List UInt8|.mk _ _ a _ _ _ _ _=>a
def zd7.attach:zd7->Bool|.mk _ _ _ a _ _ _ _=>a
def zd7.head:zd7->Int|.mk _ _ _ _ a _ _ _=>a
def zd7.frm:zd7->Int|.mk _ _ _ _ _ a _ _=>a
def zd7.til:zd7->Int|.mk _ _ _ _ _ _ a _=>a
def zd7.kids:zd7->List zd7|.mk _ _ _ _ _ _ _ a=>a
def zh0.kind:zh0->Int|.mk a _ _ _ _=>a
def zh0.num:zh0->Int|.mk _ a _ _ _=>a
def zh0.text:zh0->List UInt8|.mk _ _ a _ _=>a
def zh0.keys:zh0->List (List UInt8)|.mk _ _ _ a _=>a
def zh0.kids:zh0->List zh0|.mk _ _ _ _ a=>a
inductive Ec where
 | bool
 | int (k:IntKind)
 | str
 | bytes
 | pair (a b:Ec)
 | list (a:Ec)
 | part
 | node
 | box (a:Ec)
 deriving DecidableEq,Inhabited
@[reducible] def Elt:Ec->Type
 | .bool=>Bool
 | .int _=>Int
 | .str=>List UInt8
 | .bytes=>List UInt8
 | .pair a b=>Elt a×Elt b
 | .list a=>List (Elt a)
 | .part=>zd7
 | .node=>zh0
 | .box a=>Elt a
@[reducible] def dfl:(c:Ec)->Elt c
 | .bool=>false
 | .int _=>(0:Int)
 | .str=>([]:List UInt8)
 | .bytes=>([]:List UInt8)
 | .pair a b=>(dfl a,dfl b)
 | .list a=>([]:List (Elt a))
 | .part=>(.mk [] [] [] false 0 0 0 []:zd7)
 | .node=>(.mk 0 0 [] [] []:zh0)
 | .box a=>dfl a
def wid:Ec->Nat
 | .pair a b=>wid a+wid b
 | .part=>8
 | .node=>5
 | _=>1
end Go.Am
/-! The seat's own: the globals that hold an integer, and are read;the globals that hold a table of uint64. -/
namespace Go.Am
def gints:List Nat:=[]
def gtabs:List (Nat×List Int):=[]
end Go.Am
/-! Frames of functions and of rounds: the wide fence, at a loop's record or at none. -/
namespace Go.Am
open Go Go.RowKit
variable {P:Program}{a:Act}{w w':World}{r:Option Nat}{Q:Exit->Act->World->Prop}
abbrev FW(r:Option Nat):Fence:={ fn:=fun _=>True,depth:=none,alive:=false,round:=r }
theorem zbs{n:Nat}{f:FuncId}{args:Array Value}{R:Ending->World->Prop}:CallsIn (FW r) n P f args w R↔Calls P f args w R:=(callsIn_wide (n:=n) (P:=P) (f:=f) (args:=args) (w:=w) (R:=R))
theorem zit{ρ:Operand->Value}{o:Oper}{x:Next}(h:(execOp ρ o).run P w=.ok x w')(hx:∀ d,x≠.defer d):∀ c,o.op≠.defer c:=by
 intro c hc
 obtain⟨dst,op,type,pos,after,guard⟩:=o
 dsimp only at hc
 subst hc
 simp only[execOp,Sem.run_bind]at h
 cases hr:(resolve ρ c type).run P w with
 | ok d w1=>rw[hr]at h;simp[Sem.run_pure]at h;exact hx d h.1.symm
 | halt _ _=>rw[hr]at h;cases h
theorem zcy{o:Oper}{x:Next}{next:Act->World->Prop}(h:(execOp a.eval o).run P w=.ok x w')(hx:∀ d,x≠.defer d)(k:o.uponIn (FW r) 0 P a next Q (.ok x w')):o.wpIn (FW r) 0 P a w next Q:=by
 refine⟨fun _ _=>trivial,?_⟩
 rw[Oper.semAt_eq _ _ _ (zit h hx),h]
 exact k
theorem yk{o:Oper}{v:Value}{next:Act->World->Prop}(h:(execOp a.eval o).run P w=.ok (.value v) w')(k:next (a.put o.dst v) w'):o.wpIn (FW r) 0 P a w next Q:=zcy h (fun _ e=>by cases e) k
theorem zbW{o:Oper}{next:Act->World->Prop}(h:(execOp a.eval o).run P w=.ok .skip w')(k:next (a.put o.dst undef) w'):o.wpIn (FW r) 0 P a w next Q:=zcy h (fun _ e=>by cases e) k
theorem zfA{o:Oper}{f:FuncId}{args:Array Value}{next:Act->World->Prop}(h:(execOp a.eval o).run P w=.ok (.enter f args) w')
 (k:Calls P f args w' fun e w''=>∃ v,e=.returned v/\next (a.put o.dst v) w''):o.wpIn (FW r) 0 P a w next Q:=
 zcy h (fun _ e=>by cases e) ⟨fun h=>(by cases h),zbs.2 (k.mono fun e w'' ⟨v,he,hn⟩=>by subst he;exact hn)⟩
section
variable {b:Frame}{k:List Item}{cs:List Frame}
theorem zY{c:Code}:step P (lone (b.atR a (.code (.scope c)::k)) cs w)=.next (lone (b.atR a (.code c::.inScope c::k)) cs w):=
 step_lone_go (by simp[stepG,stepG.exec,Frame.atR])
theorem zdC{c:Code}:step P (lone (b.atR a (.inScope c::k)) cs w)=.next (lone (b.atR a k) cs w):=
 step_lone_go (by simp[stepG,stepG.exec,Frame.atR])
end
theorem zaa{F:Fence}{n:Nat}{c:Code}(h:c.wpIn F n P (Exit.noGoto Q) a w):(Code.scope c).wpIn F n P Q a w:=by
 intro b k cs hro hb hr
 have h0:(lone (b.atR a (.code (.scope c)::k)) cs w).fenced P F:=fenced_calm hb hr rfl
 obtain⟨e,a₁,w₁,hq,harr⟩:=h b (.inScope c::k) cs hro hb hr
 cases e with
 | normal=>exact⟨.normal,a₁,w₁,hq,.head h0 zY (StepsIn.trans harr (.one (fenced_calm hb hr rfl) zdC))⟩
 | exit id=>
  have hx:exitTo id (.inScope c::k)=exitTo id k:=by simp[exitTo]
  exact⟨.exit id,a₁,w₁,hq,fun k' hk=>.head h0 zY (harr.1 k' (by rw[hx];exact hk)),
   fun hr' hk=>let ⟨k₁,h1,h2⟩:=harr.2 hr' (by rw[hx];exact hk);⟨k₁,h1,.head h0 zY h2⟩⟩
 | goto l=>exact hq.elim
 | ret=>exact⟨_,a₁,w₁,hq,.of_steps (.one h0 zY) harr⟩
 | panic ch=>exact⟨_,a₁,w₁,hq,.of_steps (.one h0 zY) harr⟩
 | outgrown=>exact⟨_,a₁,w₁,hq,.of_steps (.one h0 zY) harr⟩
theorem zbu{F:Fence}{n:Nat}{c:Code}(I:Nat->Act->World->Prop)
 (round:∀ n' a w,I n' a w->c.wpIn F n P (Exit.then (fun a' w'=>∃ m,m<n'/\I m a' w') Q) a w) (n₀:Nat) (h₀:I n₀ a w):(Code.loop c).wpIn F n P Q a w:=by
 intro b k cs hro hb hr
 have key:∀ j a w,I j a w->∃ e a' w',Q e a' w'/\ArrivesIn (Machine.fenced P F) P (lone (b.atR a (.code c::.inLoop c::k)) cs w) b k cs e a' w':=by
  intro j
  induction j using Nat.strongRecOn with
  | _ j ih=>
   intro a w hI
   obtain⟨e,a₁,w₁,hq,harr⟩:=round j a w hI b (.inLoop c::k) cs hro hb hr
   cases e with
   | normal=>
    obtain⟨m,hlt,hI₁⟩:=hq
    obtain⟨e₂,a₂,w₂,hq₂,harr₂⟩:=ih m hlt a₁ w₁ hI₁
    exact⟨e₂,a₂,w₂,hq₂,.of_steps (StepsIn.trans harr (.one (fenced_calm hb hr rfl) stepR_inLoop)) harr₂⟩
   | exit id=>exact⟨_,a₁,w₁,hq,.pass (x:=.inLoop c) rfl (fun _ _=>.inl (by simp)) harr⟩
   | goto l=>exact⟨_,a₁,w₁,hq,.pass (x:=.inLoop c) rfl (fun _ _=>.inl (by simp)) harr⟩
   | ret=>exact⟨_,a₁,w₁,hq,.pass (x:=.inLoop c) rfl (fun _ _=>.inl (by simp)) harr⟩
   | panic ch=>exact⟨_,a₁,w₁,hq,.pass (x:=.inLoop c) rfl (fun _ _=>.inl (by simp)) harr⟩
   | outgrown=>exact⟨_,a₁,w₁,hq,.pass (x:=.inLoop c) rfl (fun _ _=>.inl (by simp)) harr⟩
 obtain⟨e,a',w',hq,harr⟩:=key n₀ a w h₀
 exact⟨e,a',w',hq,.of_steps (.one (fenced_calm hb hr rfl) stepR_loop) harr⟩
end Go.Am
/-! The abstract machine: values, relation to the model's values. -/
namespace Go.Am
open Go Go.RowKit
abbrev Mem:=Nat->Nat->Option Value
mutual
inductive PV where
 | bool (b:Bool)
 | int (k:IntKind) (n:Int)
 | str (l:List UInt8)
 | plain (v:Value)
 | nil
 | bytes (l:List UInt8)
 | list (k:Nat) (R:Rows)
 | box (n:Nat) (f:Nat->PV)
 | bad
inductive Rows where
 | fn (n:Nat) (f:Nat->Nat->PV)
 | dat (c:Ec) (l:List (Elt c))
end
instance:Inhabited PV:=⟨.bad⟩
def cell:(c:Ec)->Elt c->Nat->PV
 | .bool,x,_=>.bool x
 | .int k,x,_=>.int k x
 | .str,x,_=>.str x
 | .bytes,x,_=>.bytes x
 | .pair a b,x,j=>match Nat.blt j (wid a)with|true=>cell a x.1 j|false=>cell b x.2 (j-wid a)
 | .list a,x,_=>.list (wid a) (.dat a x)
 | .part,x,j=>match j with
  | 0=>.str x.type|1=>.list 2 (.dat (.pair .str .str) x.params)|2=>.str x.enc|3=>.bool x.attach
  | 4=>.int .i64 x.head|5=>.int .i64 x.frm|6=>.int .i64 x.til|_=>.list 8 (.dat .part x.kids)
 | .node,x,j=>match j with
  | 0=>.int .i64 x.kind|1=>.int .i64 x.num|2=>.str x.text|3=>.list 1 (.dat .str x.keys)|_=>.list 5 (.dat .node x.kids)
 | .box a,x,_=>.box (wid a) (cell a x)
def Rows.n:Rows->Nat
 | .fn n _=>n
 | .dat _ l=>l.length
def Rows.f:Rows->Nat->Nat->PV
 | .fn _ f=>f
 | .dat c l=>fun i j=>cell c (l.getD i (dfl c)) j
def zkZ:Value->Bool
 | .pointer none|.map none|.chan none|.nilFunc|.nilIface|.float _ _=>true
 | _=>false
def zq(c:UInt8):Value:=.int .u8 (c.toNat:Int)
inductive zF(M:Mem):PV->Value->Prop
 | bool (b:Bool):zF M (.bool b) (.bool b)
 | int (k:IntKind) (n:Int) (h:k.has n):zF M (.int k n) (.int k n)
 | str (l:List UInt8) (h:l.length<=maxLen):zF M (.str l) (.string ⟨l.toArray⟩)
 | plain (v:Value) (h:zkZ v=true):zF M (.plain v) v
 | nil:zF M .nil (.slice none 0 0)
 | bytesNil:zF M (.bytes []) (.slice none 0 0)
 | bytes (l:List UInt8) (b off cap:Nat) (hm:l.length<=maxLen) (hc:l.length<=cap)
  (h:∀ i c,l[i]?=some c->M b (off+i)=some (zq c)):zF M (.bytes l) (.slice (some ⟨b,off,none⟩) l.length cap)
 | listNil (k:Nat) (R:Rows) (h0:R.n=0):zF M (.list k R) (.slice none 0 0)
 | listZero (k:Nat) (R:Rows) (a:Addr) (h0:R.n=0):zF M (.list k R) (.slice (some a) 0 0)
 | list (k:Nat) (R:Rows) (b off cap:Nat) (g:Nat->Nat->Value) (hm:R.n<=maxLen) (hc:R.n<=cap)
  (hM:∀ i j,i<R.n->j<k->M b (off+i*k+j)=some (g i j))
  (h:∀ i j,i<R.n->j<k->zF M (R.f i j) (g i j)):zF M (.list k R) (.slice (some ⟨b,off,none⟩) R.n cap)
 | box (n:Nat) (f:Nat->PV) (b off:Nat) (g:Nat->Value)
  (hM:∀ j,j<n->M b (off+j)=some (g j))
  (h:∀ j,j<n->zF M (f j) (g j)):zF M (.box n f) (.pointer (some ⟨b,off,none⟩))
def MLe(M M':Mem):Prop:=∀ b o v,M b o=some v->M' b o=some v
theorem MLe.refl(M:Mem):MLe M M:=fun _ _ _ h=>h
theorem MLe.trans{A B C:Mem}(h:MLe A B)(k:MLe B C):MLe A C:=fun b o v x=>k b o v (h b o v x)
theorem zF.mono{M M':Mem}(hM:MLe M M'){x:PV}{v:Value}(h:zF M x v):zF M' x v:=by
 induction h with
 | bool b=>exact .bool b
 | int k n h=>exact .int k n h
 | str l h=>exact .str l h
 | plain v h=>exact .plain v h
 | nil=>exact .nil
 | bytesNil=>exact .bytesNil
 | bytes l b off cap hm hc h=>exact .bytes l b off cap hm hc fun i c hi=>hM _ _ _ (h i c hi)
 | listNil k R h0=>exact .listNil k R h0
 | listZero k R a h0=>exact .listZero k R a h0
 | list k R b off cap g hm hc h1 h2 ih=>exact .list k R b off cap g hm hc (fun i j a c=>hM _ _ _ (h1 i j a c)) ih
 | box n f b off g h1 h2 ih=>exact .box n f b off g (fun j a=>hM _ _ _ (h1 j a)) ih
theorem zF.oneCell{M:Mem}{x:PV}{v:Value}(h:zF M x v):v.oneCell'=true:=by
 cases h <;> try rfl
 rename_i h;cases v <;> first|rfl|simp[zkZ]at h
inductive G where
 | cell (b:Nat)
 | arr (a:Option Nat) (k n cap:Nat)
def G.blk:G->Option Nat
 | .cell b=>some b
 | .arr a _ _ _=>a
inductive AV where
 | any
 | p (x:PV)
 | ref (id off:Nat)
 | arr (id:Nat)
 | aptr (id i off:Nat)
 | mref (id:Nat)
 | clo (fn:Fn) (fs cs:List AV)
 | agg (cs:List AV)
 | tup (cs:List AV)
 | gd (c:Bool) (x:AV)
 deriving Inhabited
def yP(a:Option Nat)(n cap:Nat):Value:=.slice (a.map fun g=>⟨g,0,none⟩) n cap
inductive ARel(γ:Nat->Option G)(M:Mem):AV->Value->Prop
 | any (v:Value):ARel γ M .any v
 | p (x:PV) (v:Value) (h:zF M x v):ARel γ M (.p x) v
 | ref (id off b:Nat) (h:γ id=some (.cell b)):ARel γ M (.ref id off) (.pointer (some ⟨b,off,none⟩))
 | arr (id:Nat) (a:Option Nat) (k n cap:Nat) (h:γ id=some (.arr a k n cap)):ARel γ M (.arr id) (yP a n cap)
 | aptr (id i off g k n cap:Nat) (h:γ id=some (.arr (some g) k n cap)):ARel γ M (.aptr id i off) (.pointer (some ⟨g,i*k+off,none⟩))
 | mref (id b:Nat) (h:γ id=some (.cell b)):ARel γ M (.mref id) (.map (some b))
 | clo (fn:Fn) (fs cs:List AV) (vf vc:Array Value) (hf:vf.size=fs.length) (hc:vc.size=cs.length)
  (h1:∀ i,i<fs.length->ARel γ M (fs.getD i .any) (vf.getD i undef))
  (h2:∀ i,i<cs.length->ARel γ M (cs.getD i .any) (vc.getD i undef)):ARel γ M (.clo fn fs cs) (.func fn vf vc)
 | agg (cs:List AV) (vs:Array Value) (hs:vs.size=cs.length)
  (h:∀ i,i<cs.length->ARel γ M (cs.getD i .any) (vs.getD i undef)):ARel γ M (.agg cs) (.agg vs)
 | tup (cs:List AV) (vs:Array Value) (hs:vs.size=cs.length)
  (h:∀ i,i<cs.length->ARel γ M (cs.getD i .any) (vs.getD i undef)):ARel γ M (.tup cs) (.tuple vs)
 | gd (c:Bool) (x:AV) (v:Value) (h:c=true->ARel γ M x v) (h0:c=false->v=undef):ARel γ M (.gd c x) v
def GLe(γ γ':Nat->Option G):Prop:=∀ id g,γ id=some g->γ' id=some g
theorem GLe.refl(γ:Nat->Option G):GLe γ γ:=fun _ _ h=>h
theorem GLe.trans{A B C:Nat->Option G}(h:GLe A B)(k:GLe B C):GLe A C:=fun b o x=>k b o (h b o x)
theorem ARel.mono{γ γ':Nat->Option G}{M M':Mem}(hγ:GLe γ γ')(hM:MLe M M'){x:AV}{v:Value}(h:ARel γ M x v):ARel γ' M' x v:=by
 induction h with
 | any v=>exact .any v
 | p x v h=>exact .p x v (h.mono hM)
 | ref id off b h=>exact .ref id off b (hγ _ _ h)
 | arr id a k n cap h=>exact .arr id a k n cap (hγ _ _ h)
 | aptr id i off g k n cap h=>exact .aptr id i off g k n cap (hγ _ _ h)
 | mref id b h=>exact .mref id b (hγ _ _ h)
 | clo fn fs cs vf vc hf hc _ _ ih1 ih2=>exact .clo fn fs cs vf vc hf hc ih1 ih2
 | agg cs vs hs _ ih=>exact .agg cs vs hs ih
 | tup cs vs hs _ ih=>exact .tup cs vs hs ih
 | gd c x v _ h0 ih=>exact .gd c x v ih h0
inductive AObj where
 | cells (cs:List AV)
 | barr (e:TypeId) (mu:Bool) (l:List UInt8)
 | larr (e:TypeId) (mu:Bool) (k:Nat) (R:Rows)
 | bcv (e:TypeId) (l:List UInt8)
 | bldr (T:TypeId) (a:AV)
 | raw (o:Obj)
 | mp (e:Ec) (l:List (Int×Elt e))
instance:Inhabited AObj:=⟨.raw default⟩
def zak(M:Mem)(e:Ec):List MapEntry->List (Int×Elt e)->Prop
 | [],[]=>True
 | x::xs,y::ys=>x.key=.int .i64 y.1/\zF M (cell e y.2 0) x.val/\zak M e xs ys
 | _,_=>False
theorem zak.mono{M M':Mem}(hM:MLe M M'){e:Ec}:∀ {es:List MapEntry} {l:List (Int×Elt e)},zak M e es l->zak M' e es l
 | [],[],_=>trivial
 | _::_,_::_,h=>⟨h.1,h.2.1.mono hM,h.2.2.mono hM⟩
structure zcq(M:Mem)(w:World)(e:TypeId)(mu:Bool)(k n:Nat)(vs:List Value)(a:Option Nat)(cap:Nat):Prop where
 own:w.ownsRow 0 e k (yP a n cap) n vs
 one:∀ v ∈ vs,v.oneCell'=true
 len:n<=maxLen
 mem:∀ g,a=some g->if mu then ∀ o,M g o=none else ∀ o,M g o=vs[o]?
def OM(γ:Nat->Option G)(M:Mem)(w:World)(id:Nat):AObj->Prop
 | .cells cs=>∃ b vs e,γ id=some (.cell b)/\w.heap[b]?=some (.cells vs e (0,0))/\vs.size=cs.length/\
  (∀ j,j<cs.length->ARel γ M (cs.getD j .any) (vs.getD j undef)/\(vs.getD j undef).oneCell'=true)/\(∀ o,M b o=none)
 | .barr e mu l=>∃ a cap,γ id=some (.arr a 1 l.length cap)/\zcq M w e mu 1 l.length (l.map zq) a cap
 | .larr e mu k R=>∃ a cap vs,γ id=some (.arr a k R.n cap)/\(∀ i j,i<R.n->j<k->∃ v,vs[i*k+j]?=some v/\zF M (R.f i j) v)/\
  zcq M w e mu k R.n vs a cap
 | .bcv e l=>∃ g cur,γ id=some (.arr (some g) 1 l.length cur.size)/\w.heap[g]?=some (.cells cur e (cur.size,cur.size+1))/\cur.toList.take l.length=l.map zq/\
  l.length<=cur.size/\l.length<=maxLen/\(∀ o,M g o=none)
 | .bldr T a=>∃ b v0 v1,γ id=some (.cell b)/\w.heap[b]?=some (.cells #[v0,v1] T (0,0))/\(v0=.pointer none\/v0=.pointer (some ⟨b,0,none⟩))/\ARel γ M a v1/\v1.oneCell'=true/\(∀ o,M b o=none)
 | .raw o=>∃ b,γ id=some (.cell b)/\w.heap[b]?=some o/\(∀ q,M b q=none)
 | .mp e l=>∃ b es clock,γ id=some (.cell b)/\w.heap[b]?=some (.map es clock)/\zak M e es.toList l/\(∀ q,M b q=none)
structure S where
 sl:Nat->AV
 ob:Nat->Option AObj
 us:Nat->Bool
structure Ctx where
 w0:World
 M0:Mem
 own:Nat->Prop
 nt:Nat
 g0:Nat->Option G
 rd:Option Nat:=none
 dl:List Deferred:=[]
def GOk(M:Mem):Prop:=∀ g,g ∈ gints->∃ m,M g 0=some (.int .i64 m)
theorem GOk.mono{M M':Mem}(h:GOk M)(hM:MLe M M'):GOk M':=fun g hg=>let ⟨m,hm⟩:=h g hg;⟨m,hM _ _ _ hm⟩
structure MOk(M:Mem)(w:World):Prop where
 cell:∀ b o v,M b o=some v->w.cell? ⟨b,o,none⟩=some v
 good:GOk M
def TOk(w:World):Prop:=∀ x ∈ gtabs,∃ e m,w.heap[x.1]?=some (.cells (x.2.map fun z=>Value.int .u64 z).toArray e m)
def znU(b:Nat):Prop:=∃ x ∈ gtabs,x.1=b
theorem TOk.lt{w:World}(h:TOk w){b:Nat}(hb:znU b):b<w.heap.size:=by
 obtain⟨x,hx,rfl⟩:=hb
 obtain⟨e,m,hh⟩:=h x hx
 exact(Array.getElem?_eq_some_iff.1 hh).1
theorem TOk.keep{w w':World}(h:TOk w)(hk:∀ b,b<w.heap.size->znU b->w'.heap[b]?=w.heap[b]?):TOk w':=fun x hx=>by
 obtain⟨e,m,hh⟩:=h x hx
 exact⟨e,m,(hk x.1 (h.lt ⟨x,hx,rfl⟩) ⟨x,hx,rfl⟩).trans hh⟩
structure TabC(C:Ctx):Prop where
 ok:TOk C.w0
 own:∀ b,C.own b->¬ znU b
structure WOk(M:Mem)(w:World):Prop extends MOk M w where
 tabs:TOk w
instance {M:Mem}{w:World}:CoeFun (MOk M w) (fun _=>∀ b o v,M b o=some v->w.cell? ⟨b,o,none⟩=some v):=⟨MOk.cell⟩
instance {M:Mem}{w:World}:CoeFun (WOk M w) (fun _=>∀ b o v,M b o=some v->w.cell? ⟨b,o,none⟩=some v):=⟨fun h=>h.cell⟩
instance {M:Mem}{w:World}:CoeOut (WOk M w) (MOk M w):=⟨WOk.toMOk⟩
structure Fr(C:Ctx)(w:World):Prop where
 os:w.os=C.w0.os
 tape:w.tape=C.w0.tape
 output:w.output=C.w0.output
 size:C.w0.heap.size<=w.heap.size
 block:∀ b,b<C.w0.heap.size->¬ C.own b->w.heap[b]?=C.w0.heap[b]?
 tab:TabC C
theorem Fr.tabs{C:Ctx}{w:World}(h:Fr C w):TOk w:=h.tab.ok.keep fun b hb ht=>h.block b hb fun ho=>h.tab.own b ho ht
structure StG(C:Ctx)(γ:Nat->Option G)(M:Mem)(s:S)(a:Act)(w:World):Prop where
 sl:∀ t,ARel γ M (s.sl t) (a.tmps.getD t undef)
 ob:∀ id o,s.ob id=some o->OM γ M w id o
 us:∀ id,s.us id=false->γ id=none
 sep:∀ id id' g g' b,s.ob id≠none->s.ob id'≠none->γ id=some g->γ id'=some g'->g.blk=some b->g'.blk=some b->id=id'
 lo:∀ id g b,s.ob id≠none->γ id=some g->g.blk=some b->(C.w0.heap.size<=b\/C.own b)/\b<w.heap.size
 mem:MOk M w
 le:MLe C.M0 M
 new:∀ b,b<C.w0.heap.size->¬ C.own b->M b=C.M0 b
 fr:Fr C w
 df:a.defers=C.dl
 nt:a.tmps.size=C.nt
 gl:GLe C.g0 γ
theorem StG.wok{C:Ctx}{γ:Nat->Option G}{M:Mem}{s:S}{a:Act}{w:World}(h:StG C γ M s a w):WOk M w:=⟨h.mem,h.fr.tabs⟩
theorem StG.notab{C:Ctx}{γ:Nat->Option G}{M:Mem}{s:S}{a:Act}{w:World}(h:StG C γ M s a w){id:Nat}{g:G}{b:Nat}(h1:s.ob id≠none)(h2:γ id=some g)(h3:g.blk=some b):¬ znU b:=fun ht=>by
 rcases(h.lo id g b h1 h2 h3).1 with hb|hb
 .have:=h.fr.tab.ok.lt ht;omega
 .exact h.fr.tab.own b hb ht
def St(C:Ctx)(s:S)(a:Act)(w:World):Prop:=∃ γ M,StG C γ M s a w
def upd{α:Type}(f:Nat->α)(i:Nat)(x:α):Nat->α:=fun j=>match Nat.beq j i with|true=>x|false=>f j
theorem zc{α:Type}(f:Nat->α)(i:Nat)(x:α):upd f i x i=x:=by simp[upd]
theorem zh{α:Type}(f:Nat->α){i j:Nat}(x:α)(h:j≠i):upd f i x j=f j:=by
 unfold upd
 cases hb:Nat.beq j i with
 | true=>exact absurd (Nat.eq_of_beq_eq_true hb) h
 | false=>rfl
end Go.Am
/-! Operations that touch no memory. -/
namespace Go.Am
open Go Go.RowKit
@[reducible] def zQ (n:Int):Prop:=-9223372036854775808<=n/\n<=9223372036854775807
@[reducible] def zlh (n:Nat):Prop:=n<=9223372036854775807
theorem zfY{n:Int}(h:zQ n):IntKind.i64.has n:=by
 unfold zQ at h;simp only[IntKind.has,IntKind.min,IntKind.max,IntKind.signed,IntKind.bits];simp;omega
theorem zce(k:IntKind)(n:Int):k.has (k.wrap n):=by
 cases k <;> simp[IntKind.has,IntKind.wrap,IntKind.min,IntKind.max,IntKind.signed,IntKind.bits] <;> (try split) <;> omega
theorem yS{k:IntKind}{n:Int}(h:k.has n):k.wrap n=n:=by
 cases k <;> simp[IntKind.has,IntKind.wrap,IntKind.min,IntKind.max,IntKind.signed,IntKind.bits]at h ⊢ <;> (try split) <;> omega
theorem zsL(c:UInt8):IntKind.u8.has (c.toNat:Int):=by
 have:=c.toNat_lt;simp[IntKind.has,IntKind.min,IntKind.max,IntKind.signed,IntKind.bits];omega
def zJ(op:BinOp)(k:IntKind)(x y:Int):Int:=
 match op with
 | .and=>k.wrap ((BitVec.ofInt k.bits x&&& BitVec.ofInt k.bits y).toNat)
 | .or=>k.wrap ((BitVec.ofInt k.bits x||| BitVec.ofInt k.bits y).toNat)
 | .xor=>k.wrap ((BitVec.ofInt k.bits x ^^^ BitVec.ofInt k.bits y).toNat)
 | .andNot=>k.wrap ((BitVec.ofInt k.bits x&&& ~~~BitVec.ofInt k.bits y).toNat)
 | _=>0
def zuz:IntKind->Bool|.i64=>true|_=>false
@[reducible] def okP:Option Prop->Prop
 | none=>True
 | some p=>p
def zfo(k:IntKind)(n:Int):PV×Option Prop:=
 match zuz k with
 | true=>(.int k n,some (zQ n))
 | false=>(.int k (k.wrap n),none)
def zFK:IntKind->Bool|.u64=>false|_=>true
def zoC(a b:IntKind):Bool:=
 match a,b with
 | .i8,.i8|.i16,.i16|.i32,.i32|.i64,.i64|.u8,.u8|.u16,.u16|.u32,.u32|.u64,.u64=>true
 | _,_=>false
theorem ziA{a b:IntKind}(h:zoC a b=true):a=b:=by cases a <;> cases b <;> first|rfl|cases h
def zpq(op:BinOp)(k:IntKind)(a b:Int):Option (PV×Option Prop):=
 match op with
 | .add=>some (zfo k (a+b))
 | .sub=>some (zfo k (a-b))
 | .mul=>some (zfo k (a*b))
 | .quo=>match zuz k with
  | true=>some (.int k (a.tdiv b),some (b≠0/\zQ (a.tdiv b)))
  | false=>some (.int k (k.wrap (a.tdiv b)),some (b≠0))
 | .rem=>some (.int k (a.tmod b),some (b≠0))
 | .and=>some (.int k (zJ .and k a b),none)
 | .or=>some (.int k (zJ .or k a b),none)
 | .xor=>some (.int k (zJ .xor k a b),none)
 | .andNot=>some (.int k (zJ .andNot k a b),none)
 | .eql=>some (.bool (a==b),none)
 | .neq=>some (.bool (a != b),none)
 | .lss=>some (.bool (decide (a<b)),none)
 | .leq=>some (.bool (decide (a<=b)),none)
 | .gtr=>some (.bool (decide (a>b)),none)
 | .geq=>some (.bool (decide (a>=b)),none)
 | _=>none
def zpp(op:BinOp)(a b:List UInt8):Option (PV×Option Prop):=
 match op with
 | .add=>some (.str (a++b),some (zlh (a.length+b.length)))
 | .eql=>some (.bool (a==b),none)
 | .neq=>some (.bool (a != b),none)
 | .lss=>some (.bool (Op.bytesLess a b),none)
 | .leq=>some (.bool (Op.bytesLess a b||a==b),none)
 | .gtr=>some (.bool (!(Op.bytesLess a b||a==b)),none)
 | .geq=>some (.bool (!(Op.bytesLess a b)),none)
 | _=>none
def zrx(op:BinOp)(x y:PV):Option (PV×Option Prop):=
 match x,y with
 | .int k a,.int k' b=>
  match op with
  | .shl=>some (.int k (k.wrap (a*2^(min b.toNat k.bits))),some (0<=b))
  | .shr=>some (.int k (a.fdiv (2^(min b.toNat k.bits))),some (0<=b))
  | op=>match zoC k k' with|true=>zpq op k a b|false=>none
 | .str a,.str b=>zpp op a b
 | .bool a,.bool b=>match op with
  | .eql=>some (.bool (a==b),none)
  | .neq=>some (.bool (a != b),none)
  | _=>none
 | _,_=>none
theorem zhN(a b:Int)(h:0<=a):a % b<=a:=by
 obtain⟨m,rfl⟩:=Int.eq_ofNat_of_zero_le h
 have key:∀ n:Nat,(m:Int) % (n:Int)<=(m:Int):=fun n=>by
  have:=Nat.mod_le m n
  have e:((m % n:Nat):Int)=(m:Int) % (n:Int):=Int.natCast_emod m n
  omega
 rcases Int.natAbs_eq b with hb|hb
 .rw [hb];exact key _
 .rw [hb,Int.emod_neg];exact key _
theorem zxl{k:IntKind}{a b:Int}(ha:k.has a)(_hb:k.has b)(_h0:b≠0):k.has (a.tmod b):=by
 have h1:a.tmod b=a-b*(a.tdiv b):=by have:=Int.mul_tdiv_add_tmod a b;omega
 rcases Int.le_total 0 a with h|h
 .have h2:=Int.tmod_nonneg b h
  have h3:a.tmod b<=a:=by
   rw[Int.tmod_eq_emod_of_nonneg h];exact zhN a b h
  simp only[IntKind.has]at *
  have h4:k.min<=0:=by cases k <;> simp[IntKind.min,IntKind.signed,IntKind.bits]
  omega
 .have h2:a.tmod b<=0:=by
   have:=Int.tmod_nonneg b (a:=-a) (by omega)
   rw[Int.neg_tmod]at this;omega
  have h3:a<=a.tmod b:=by
   have hx:(-a).tmod b<=-a:=by
    rw[Int.tmod_eq_emod_of_nonneg (by omega:(0:Int)<=-a)];exact zhN (-a) b (by omega)
   rw[Int.neg_tmod]at hx;omega
  simp only[IntKind.has]at *
  have h4:0<=k.max:=by cases k <;> simp[IntKind.max,IntKind.signed,IntKind.bits]
  omega
theorem zzq{k:IntKind}{a:Int}(ha:k.has a)(n:Nat):k.has (a.fdiv (2^n)):=by
 have hp:(0:Int)<2^n:=Int.pow_pos (by decide)
 have e:a.fdiv (2^n)=a/(2^n):=Int.fdiv_eq_ediv_of_nonneg a (Int.le_of_lt hp)
 rw[e]
 simp only[IntKind.has]at *
 have h4:k.min<=0:=by cases k <;> simp[IntKind.min,IntKind.signed,IntKind.bits]
 have h5:0<=k.max:=by cases k <;> simp[IntKind.max,IntKind.signed,IntKind.bits]
 rcases Int.le_total 0 a with h|h
 .have h1:0<=a/2^n:=Int.ediv_nonneg h (Int.le_of_lt hp)
  have h2:a/2^n<=a:=Int.ediv_le_self _ h
  omega
 .have h1:a/2^n<=0:=by
   have:=Int.ediv_le_ediv hp h;simpa using this
  have h2:a<=a/2^n:=by
   rw[Int.le_ediv_iff_mul_le hp]
   have:a*2^n<=a*1:=Int.mul_le_mul_of_nonpos_left h (by omega)
   omega
  omega
theorem zga{M:Mem}{k:IntKind}{n:Int}(h:okP (zfo k n).2):zF M (zfo k n).1 (.int k (k.wrap n)):=by
 unfold zfo at *
 cases k <;> simp only[zuz]at h ⊢ <;> first
  | (rw[yS (zfY h)];exact .int _ _ (zfY h))
  | exact .int _ _ (zce _ _)
variable {P:Program}
theorem zfW(op:BinOp)(k:IntKind)(a b:Int)(hop:op=.and\/op=.or\/op=.xor\/op=.andNot)(w:World):
 (Op.intBits op k a b).run P w=.ok (.int k (zJ op k a b)) w:=by
 rcases hop with rfl|rfl|rfl|rfl <;> simp[Op.intBits,zJ]
theorem zmE{M:Mem}{op:BinOp}{k:IntKind}{a b:Int}{r:PV}{ok:Option Prop}(h:zpq op k a b=some (r,ok))(hok:okP ok)
 (ha:k.has a) (hb:k.has b) (t:TypeId) (w:World):∃ v,(binOp op t (.int k a) (.int k b)).run P w=.ok v w/\zF M r v:=by
 cases op <;> simp only[zpq,Option.some.injEq,reduceCtorEq]at h
 case add=>cases hx:zfo k (a+b);rw[hx]at h;cases h;have:=zga (M:=M) (k:=k) (n:=a+b) (by rw[hx];exact hok);rw[hx]at this;exact⟨_,by simp[binOp,Op.intArith],this⟩
 case sub=>cases hx:zfo k (a-b);rw[hx]at h;cases h;have:=zga (M:=M) (k:=k) (n:=a-b) (by rw[hx];exact hok);rw[hx]at this;exact⟨_,by simp[binOp,Op.intArith],this⟩
 case mul=>cases hx:zfo k (a*b);rw[hx]at h;cases h;have:=zga (M:=M) (k:=k) (n:=a*b) (by rw[hx];exact hok);rw[hx]at this;exact⟨_,by simp[binOp,Op.intArith],this⟩
 case quo=>
  cases hk:zuz k <;> rw[hk]at h <;> cases h
  .exact ⟨_,by simp[binOp,Op.intDiv,hok],.int _ _ (zce _ _)⟩
  .have:k=.i64:=by cases k <;> first|rfl|cases hk
   subst this
   exact⟨.int .i64 (a.tdiv b),by simp[binOp,Op.intDiv,hok.1,yS (zfY hok.2)],.int _ _ (zfY hok.2)⟩
 case rem=>cases h;exact⟨_,by simp[binOp,Op.intDiv,hok],.int _ _ (zxl ha hb hok)⟩
 case and=>cases h;exact⟨_,by simp only[binOp,ne_eq,not_true_eq_false,if_false];exact zfW .and k a b (by simp) w,.int _ _ (zce _ _)⟩
 case or=>cases h;exact⟨_,by simp only[binOp,ne_eq,not_true_eq_false,if_false];exact zfW .or k a b (by simp) w,.int _ _ (zce _ _)⟩
 case xor=>cases h;exact⟨_,by simp only[binOp,ne_eq,not_true_eq_false,if_false];exact zfW .xor k a b (by simp) w,.int _ _ (zce _ _)⟩
 case andNot=>cases h;exact⟨_,by simp only[binOp,ne_eq,not_true_eq_false,if_false];exact zfW .andNot k a b (by simp) w,.int _ _ (zce _ _)⟩
 all_goals (cases h;exact⟨_,by simp[binOp,Op.intCmp],.bool _⟩)
theorem zmD{M:Mem}{op:BinOp}{a b:List UInt8}{r:PV}{ok:Option Prop}(h:zpp op a b=some (r,ok))(hok:okP ok)
 (t:TypeId) (w:World):∃ v,(binOp op t (.string ⟨a.toArray⟩) (.string ⟨b.toArray⟩)).run P w=.ok v w/\zF M r v:=by
 have hta:∀ l:List UInt8,(⟨l.toArray⟩:ByteArray).toList=l:=fun l=>by simp[ByteArray.toList_eq]
 cases op <;> simp only[zpp,Option.some.injEq,reduceCtorEq]at h <;> cases h
 case add=>
  refine⟨.string ⟨(a++b).toArray⟩,?_,.str _ (by simpa[maxLen]using hok)⟩
  have hs:¬ (((⟨a.toArray⟩:ByteArray).size+(⟨b.toArray⟩:ByteArray).size:Nat):Int)>IntKind.i64.max:=by
   simp[IntKind.max,IntKind.signed,IntKind.bits,ByteArray.size]
   unfold zlh at hok;omega
  have he:(⟨a.toArray⟩:ByteArray)++(⟨b.toArray⟩:ByteArray)=⟨(a++b).toArray⟩:=by
   apply ByteArray.ext;simp
  simp only[binOp,Op.stringOp,hs,if_false,he]
  rfl
 all_goals exact⟨_,by simp only[binOp,Op.stringOp,hta];rfl,.bool _⟩
theorem zF.int_inv{M:Mem}{k:IntKind}{n:Int}{v:Value}(h:zF M (.int k n) v):v=.int k n/\k.has n:=by cases h;exact⟨rfl,by assumption⟩
theorem zF.str_inv{M:Mem}{l:List UInt8}{v:Value}(h:zF M (.str l) v):v=.string ⟨l.toArray⟩/\l.length<=maxLen:=by cases h;exact⟨rfl,by assumption⟩
theorem zF.bool_inv{M:Mem}{b:Bool}{v:Value}(h:zF M (.bool b) v):v=.bool b:=by cases h;rfl
theorem zi8(a b:Bool)(t:TypeId)(w:World)(ht:P.underlying t=some .bool):
 (Op.equal t (.bool a) (.bool b)).run P w=.ok (a==b) w:=by
 have key:∀ d,(Op.equalIn (d+1) t (.bool a) (.bool b)).run P w=.ok (a==b) w:=fun d=>by simp[Op.equalIn,run_underlying ht]
 exact key 9999
def zfU(P:Program)(t:TypeId):Bool:=match P.underlying t with|some .bool=>true|_=>false
end Go.Am
/-! The evaluation of an operation that touches no memory, and its soundness. -/
namespace Go.Am
open Go Go.RowKit
def zgZ:Value->AV
 | .bool b=>.p (.bool b)
 | .int k n=>match decide (k.min<=n/\n<=k.max)with|true=>.p (.int k n)|false=>.any
 | .string s=>match Nat.ble s.data.toList.length 9223372036854775807 with|true=>.p (.str s.data.toList)|false=>.any
 | .slice none 0 0=>.p .nil
 | v=>match zkZ v with|true=>.p (.plain v)|false=>.any
def aev(s:Nat->AV):Operand->AV
 | .tmp t=>s t
 | .const v=>zgZ v
 | .global _=>.any
 | .func f=>.clo (.func f) [] []
theorem zrv(γ:Nat->Option G)(M:Mem)(v:Value):ARel γ M (zgZ v) v:=by
 have plain:ARel γ M (match zkZ v with|true=>AV.p (.plain v)|false=>.any) v:=by
  cases h:zkZ v
  .exact .any _
  .exact .p _ _ (.plain _ h)
 cases v with
 | bool b=>exact .p _ _ (.bool b)
 | int k n=>
  show ARel γ M (match decide (k.min<=n/\n<=k.max)with|true=>.p (.int k n)|false=>.any) _
  split
  .rename_i h;exact .p _ _ (.int _ _ (show k.has n from of_decide_eq_true (p:=k.min<=n/\n<=k.max) h))
  .exact .any _
 | string s=>
  show ARel γ M (match Nat.ble s.data.toList.length 9223372036854775807 with|true=>.p (.str s.data.toList)|false=>.any) _
  split
  .rename_i h
   have:=zF.str (M:=M) s.data.toList (by unfold maxLen;exact Nat.le_of_ble_eq_true h)
   exact .p _ _ this
  .exact .any _
 | slice a l c=>
  unfold zgZ
  split
  .rename_i h;cases h
  .rename_i h;cases h
  .rename_i h;cases h
  .rename_i h;cases h;exact .p _ _ .nil
  .exact plain
 | _=>exact plain
theorem zdz{γ:Nat->Option G}{M:Mem}{s:Nat->AV}{a:Act}(h:∀ t,ARel γ M (s t) (a.tmps.getD t undef))(x:Operand):
 ARel γ M (aev s x) (a.eval x):=by
 cases x with
 | tmp t=>exact h t
 | const v=>exact zrv γ M v
 | global g=>exact .any _
 | func f=>exact .clo (.func f) [] [] #[] #[] rfl rfl (fun i hi=>absurd hi (Nat.not_lt_zero _)) (fun i hi=>absurd hi (Nat.not_lt_zero _))
def AV.one:AV->Bool
 | .p _|.ref _ _|.arr _|.aptr _ _ _|.mref _|.clo _ _ _=>true
 | _=>false
theorem ARel.oneCell{γ:Nat->Option G}{M:Mem}{x:AV}{v:Value}(h:ARel γ M x v)(ho:x.one=true):v.oneCell'=true:=by
 cases h <;> first|rfl|cases ho|skip
 case p h=>exact h.oneCell
def AV.cells:AV->List AV
 | .agg cs=>cs
 | x=>[x]
variable {P:Program}
def zj5(P:Program)(t:TypeId)(f:Nat):Option Field:=
 match P.underlying t with
 | some (.struct fs)=>fs[f]?
 | _=>none
def ziC(P:Program)(t:TypeId):Option Bool:=
 match P.underlying t with
 | some (.struct _)=>some true
 | some (.array _ _)=>some true
 | some _=>some false
 | none=>none
def zax(P:Program)(t:TypeId):Option Nat:=(P.info? t).map (·.size)
theorem zfG{t:TypeId}{b:Bool}(h:ziC P t=some b)(w:World):(isAgg t).run P w=.ok b w:=by
 unfold ziC at h
 cases hu:P.underlying t with
 | none=>rw[hu]at h;cases h
 | some d=>
  rw[hu]at h
  cases d <;> cases h <;> simp[isAgg,run_underlying hu]
theorem yf{t:TypeId}{n:Nat}(h:zax P t=some n)(w:World):(sizeOf t).run P w=.ok n w:=by
 unfold zax at h
 cases hi:P.info? t with
 | none=>rw[hi]at h;cases h
 | some i=>rw[hi]at h;cases h;simp[sizeOf,typeInfo,hi]
def apart(P:Program)(t:TypeId)(cs:List AV)(off:Nat):Option AV:=
 match ziC P t,zax P t with
 | some true,some n=>match Nat.ble (off+n) cs.length with
  | true=>some (.agg ((cs.drop off).take n))
  | false=>none
 | some false,some _=>match Nat.blt off cs.length with
  | true=>some (cs.getD off .any)
  | false=>none
 | _,_=>none
def zzn(s d:IntKind):Bool:=
 match s,d with
 | .u8,.i64|.u16,.i64|.u32,.i64|.i8,.i64|.i16,.i64|.i32,.i64|.i64,.i64|.u8,.i32|.u8,.u8|.u8,.u32|.u8,.u64|.u8,.u16|.i32,.i32|.u64,.u64|.u32,.u32|.u32,.u64=>true
 | _,_=>false
theorem zzm{s d:IntKind}{n:Int}(h:zzn s d=true)(hn:s.has n):d.has n:=by
 cases s <;> cases d <;> first
  | (exact Bool.noConfusion h)
  | (simp[IntKind.has,IntKind.min,IntKind.max,IntKind.signed,IntKind.bits]at hn ⊢;omega)
def zAn(P:Program)(d:TypeId)(x:PV):Option PV:=
 match P.underlying d,x with
 | some (.int k),.int s n=>match zzn s k with
  | true=>some (.int k n)
  | false=>some (.int k (k.wrap n))
 | some .string,.str l=>some (.str l)
 | _,_=>none
def yr(P:Program)(t:TypeId):Bool:=match P.underlying t with|some (.slice _)=>true|_=>false
def zaP(P:Program)(t:TypeId):Bool:=match P.underlying t with|some .string=>true|_=>false
def zcS(P:Program)(t:TypeId):Option TypeId:=match P.underlying t with|some (.slice e)=>some e|_=>none
theorem yn{t:TypeId}(h:yr P t=true):∃ e,P.underlying t=some (.slice e):=by
 unfold yr at h;split at h
 .exact ⟨_,by assumption⟩
 .cases h
theorem zbz{t:TypeId}(h:zaP P t=true):P.underlying t=some .string:=by
 unfold zaP at h;split at h
 .assumption
 .cases h
theorem zam{t e:TypeId}(h:zcS P t=some e):P.underlying t=some (.slice e):=by
 unfold zcS at h;split at h
 .cases h;assumption
 .cases h
def yI(b:Bool){α:Type}(x:α):Option α:=match b with|true=>some x|false=>none
def zAg(l:List UInt8)(lo hi:Int):AV×Option Prop:=
 (.p (.str ((l.take hi.toNat).drop lo.toNat)),some (0<=lo/\lo<=hi/\hi<=(l.length:Int)))
def plen:PV->Option Nat
 | .str l=>some l.length
 | .bytes l=>some l.length
 | .list _ R=>some R.n
 | .nil=>some 0
 | _=>none
def amin:List AV->Option Int
 | []=>none
 | [.p (.int .i64 a)]=>some a
 | _=>none
def zhV(x:Int):List AV->Option Int
 | []=>some x
 | .p (.int .i64 y)::r=>zhV (if y<x then y else x) r
 | _=>none
def zhW(x:Int):List AV->Option Int
 | []=>some x
 | .p (.int .i64 y)::r=>zhW (if y>x then y else x) r
 | _=>none
def ev1:List AV->Option (AV×Option Prop)
 | [x]=>some (x,none)
 | _=>none
def zdt:Operand->Option Bool
 | .const (.bool b)=>some b
 | _=>none
def zzA(c:Bool):AV->Option (AV×Option Prop)
 | .gd c' (.p (.bool a))=>some (.p (.bool (c&&a)),some (c=true->c'=true))
 | .p (.bool a)=>some (.p (.bool (c&&a)),none)
 | _=>none
def zEW(c:Bool):AV->Option (AV×Option Prop)
 | .gd c' (.p (.bool a))=>some (.p (.bool (c||a)),some (c=false->c'=true))
 | .p (.bool a)=>some (.p (.bool (c||a)),none)
 | _=>none
def zzv(x y:Operand):List AV->Option (AV×Option Prop)
 | [.p (.bool c),a,b]=>match zdt y with
  | some false=>zzA c a
  | _=>match zdt x with
   | some true=>zEW c b
   | _=>none
 | _=>none
def zoE:PV->Bool|.bool _=>true|_=>false
def zuy(P:Program)(t:TypeId):Bool:=match P.underlying t with|some .string=>true|_=>false
def zs1(P:Program)(t:TypeId):AV->AV->Option Bool
 | .p (.str a),.p (.str b)=>match zuy P t with|true=>some (a==b)|false=>none
 | .p (.int k a),.p (.int k' b)=>match zoC k k',P.underlying t with|true,some (.int _)=>some (a==b)|_,_=>none
 | .p (.bool a),.p (.bool b)=>match zfU P t with|true=>some (a==b)|false=>none
 | _,_=>none
def zo1(P:Program)(xs ys:List AV):List Field->Option Bool
 | []=>some true
 | f::fs=>match f.name != "_" with
  | true=>match apart P f.type xs f.offset,apart P f.type ys f.offset with
   | some a,some b=>match zs1 P f.type a b with
    | some c=>match zo1 P xs ys fs with
     | some r=>some (c&&r)
     | none=>none
    | none=>none
   | _,_=>none
  | false=>none
def zmT(P:Program)(t:TypeId):Bool:=(match P.underlying t with|some (.struct _)=>true|_=>false)&&(!(P.stoodInHeld t)&&!(P.eqGuardType P.depth t))
def zuQ(P:Program)(op:BinOp)(t:TypeId):List AV->Option (AV×Option Prop)
 | [.p x,.p y]=>match zoE x with
  | true=>match zfU P t with
   | true=>(zrx op x y).map fun r=>(.p r.1,r.2)
   | false=>none
  | false=>(zrx op x y).map fun r=>(.p r.1,r.2)
 | [.agg xs,.agg ys]=>match zmT P t with
  | true=>match zo1 P xs ys (P.fieldsOf t).toList with
   | some c=>match op with
    | .eql=>some (.p (.bool c),none)
    | .neq=>some (.p (.bool (!c)),none)
    | _=>none
   | none=>none
  | false=>none
 | _=>none
def evUn(op:UnOp):List AV->Option (AV×Option Prop)
 | [.p (.bool b)]=>match op with
  | .not=>some (.p (.bool (!b)),none)
  | _=>none
 | [.p (.int k n)]=>match op with
  | .neg=>some (.p (zfo k (0-n)).1,(zfo k (0-n)).2)
  | _=>none
 | _=>none
def zyO(P:Program)(t:TypeId):Bool:=(P.underlying t).isSome
def zzy(P:Program)(s d:TypeId):List AV->Option (AV×Option Prop)
 | [.p x]=>match zyO P s with
  | true=>(zAn P d x).map fun r=>(.p r,none)
  | false=>none
 | _=>none
def zuN(P:Program)(t:TypeId):List AV->Option (AV×Option Prop)
 | [.p (.str l),.p (.int _ i)]=>yI (zaP P t) (.p (.int .u8 ((l.getD i.toNat 0).toNat:Int)),some (0<=i/\i<(l.length:Int)))
 | _=>none
def zaS(P:Program)(t:TypeId):Option Nat:=
 match zcS P t with
 | some e=>zax P e
 | none=>none
def zoX(P:Program)(t:TypeId)(lo hi:Bool):List AV->Option (AV×Option Prop)
 | [.p (.str l)]=>match lo,hi with
  | false,false=>yI (zaP P t) (.p (.str l),none)
  | _,_=>none
 | [.p (.str l),.p (.int _ i)]=>match lo,hi with
  | true,false=>yI (zaP P t) (.p (.str (l.drop i.toNat)),some (0<=i/\i<=(l.length:Int)))
  | false,true=>yI (zaP P t) (.p (.str (l.take i.toNat)),some (0<=i/\i<=(l.length:Int)))
  | _,_=>none
 | [.p (.str l),.p (.int _ i),.p (.int _ j)]=>match lo,hi with
  | true,true=>yI (zaP P t) (zAg l i j)
  | _,_=>none
 | [.p (.list k (.dat a l)),.p (.int _ i)]=>match lo,hi,zaS P t with
  | true,false,some k'=>yI (Nat.beq k k') (.p (.list k (.dat a (l.drop i.toNat))),some (0<=i/\i<=(l.length:Int)))
  | _,_,_=>none
 | _=>none
def znv(i:Nat):List AV->Option (AV×Option Prop)
 | [.tup cs]=>match Nat.blt i cs.length with|true=>some (cs.getD i .any,none)|false=>none
 | _=>none
def zuO(P:Program)(t:TypeId)(f:Nat):List AV->Option (AV×Option Prop)
 | [.agg cs]=>match zj5 P t f with
  | some fd=>(apart P fd.type cs fd.offset).map fun r=>(r,none)
  | none=>none
 | _=>none
def zih(k:Nat):AV->Option AV
 | .ref id off=>some (.ref id (off+k))
 | .p (.box n g)=>match Nat.ble k n with
  | true=>some (.p (.box (n-k) (fun j=>g (k+j))))
  | false=>none
 | .aptr id i off=>some (.aptr id i (off+k))
 | _=>none
def zjt(P:Program)(t:TypeId)(f:Nat):List AV->Option (AV×Option Prop)
 | [x]=>match zj5 P t f with
  | some fd=>match zax P fd.type with
   | some (_+1)=>(zih fd.offset x).map fun r=>(r,none)
   | _=>none
  | none=>none
 | _=>none
def zjs(P:Program)(t:TypeId):List AV->Option (AV×Option Prop)
 | [.p (.list k R),.p (.int _ i)]=>match zaS P t with
  | some k'=>yI (Nat.beq k k') (.p (.box k (R.f i.toNat)),some (0<=i/\i<(R.n:Int)))
  | none=>none
 | [.p (.bytes l),.p (.int _ i)]=>match zaS P t with
  | some k'=>yI (Nat.beq 1 k') (.p (.box 1 (fun _=>.int .u8 ((l.getD i.toNat 0).toNat:Int))),some (0<=i/\i<(l.length:Int)))
  | none=>none
 | _=>none
def zlD:List AV->Option (AV×Option Prop)
 | [.ref id off]=>some (.ref id off,none)
 | [.p (.box n f)]=>some (.p (.box n f),none)
 | _=>none
def zDv(P:Program)(t:TypeId):List AV->Option (AV×Option Prop)
 | [.p x]=>match x with
  | .str l=>yI (zaP P t) (.p (.int .i64 (l.length:Int)),none)
  | .bytes l=>yI (yr P t) (.p (.int .i64 (l.length:Int)),none)
  | .list _ R=>yI (yr P t) (.p (.int .i64 (R.n:Int)),none)
  | .nil=>yI (yr P t) (.p (.int .i64 0),none)
  | _=>none
 | _=>none
def zDt:List AV->Option (AV×Option Prop)
 | .p (.int .i64 a)::r=>(zhV a r).map fun n=>(.p (.int .i64 n),none)
 | _=>none
def zDu:List AV->Option (AV×Option Prop)
 | .p (.int .i64 a)::r=>(zhW a r).map fun n=>(.p (.int .i64 n),none)
 | _=>none
def znw(P:Program)(b:Builtin)(ts:Array TypeId)(xs:List AV):Option (AV×Option Prop):=
 match b with
 | .len=>match ts[0]? with|some t=>zDv P t xs|none=>none
 | .min=>zDt xs
 | .max=>zDu xs
 | _=>none
def zuP(P:Program)(c:Call)(xs:List AV):Option (AV×Option Prop):=
 match c.callee with
 | .builtin b=>znw P b c.argTypes xs
 | _=>none
def evP(P:Program)(op:Op)(xs:List AV):Option (AV×Option Prop):=
 match op with
 | .move _=>ev1 xs
 | .assign _=>ev1 xs
 | .pick _ x y=>zzv x y xs
 | .binOp op t _ _ _=>zuQ P op t xs
 | .unOp op _ _=>evUn op xs
 | .convert s d _=>zzy P s d xs
 | .index t _ _=>zuN P t xs
 | .slice t _ lo hi mx=>match mx with
  | none=>zoX P t lo.isSome hi.isSome xs
  | some _=>none
 | .extract _ i=>znv i xs
 | .field t _ f=>zuO P t f xs
 | .fieldAddr t _ f=>zjt P t f xs
 | .indexAddr t _ _=>zjs P t xs
 | .makeFunc fn a _=>some (.clo fn (xs.take a.size) (xs.drop a.size),none)
 | .nilCheck _=>zlD xs
 | .call c=>zuP P c xs
 | _=>none
end Go.Am
/-! Rows of plain data: made, put together, changed. -/
namespace Go.Am
open Go Go.RowKit
variable {M:Mem}
def zya:PV->Option (List UInt8)|.str l=>some l|_=>none
def zyc:PV->Option Bool|.bool b=>some b|_=>none
def zp9(k:IntKind):PV->Option Int
 | .int k' n=>(match zoC k' k with|true=>some n|false=>none)
 | _=>none
def zyb:PV->Option (List UInt8)|.bytes l=>some l|.nil=>some []|_=>none
def zk1(a:Ec):PV->Option (List (Elt a))
 | .nil=>some []
 | .list k (.dat a' l)=>match Nat.beq k (wid a),decEq a' a with
  | true,.isTrue h=>some (h ▸ l)
  | _,_=>none
 | _=>none
def zkW{α:Type}(f:Nat->α):Nat->Nat->List α
 | 0,_=>[]
 | n+1,i=>f i::zkW f n (i+1)
theorem zgG{α:Type}{f:Nat->α}{d:α}:∀ {n i j:Nat},j<n->(zkW f n i).getD j d=f (i+j)
 | n+1,i,0,_=>rfl
 | n+1,i,j+1,h=>by
  have:=zgG (f:=f) (d:=d) (n:=n) (i:=i+1) (j:=j) (by omega)
  simp only[zkW,List.getD_cons_succ,this]
  congr 1;omega
def zeF:(c:Ec)->List PV->Option (Elt c)
 | .bool,[x]=>zyc x
 | .int k,[x]=>zp9 k x
 | .str,[x]=>zya x
 | .bytes,[x]=>zyb x
 | .list a,[x]=>zk1 a x
 | .pair a b,ys=>match zeF a (ys.take (wid a)),zeF b (ys.drop (wid a))with
  | some x,some y=>some (x,y)
  | _,_=>none
 | .part,[a,b,c,d,e,f,g,h]=>match zya a,zk1 (.pair .str .str) b,zya c,zyc d,zp9 .i64 e,zp9 .i64 f,zp9 .i64 g,zk1 .part h with
  | some a,some b,some c,some d,some e,some f,some g,some h=>some (.mk a b c d e f g h)
  | _,_,_,_,_,_,_,_=>none
 | .node,[a,b,c,d,e]=>match zp9 .i64 a,zp9 .i64 b,zya c,zk1 .str d,zk1 .node e with
  | some a,some b,some c,some d,some e=>some (.mk a b c d e)
  | _,_,_,_,_=>none
 | .box a,[.box n f]=>match Nat.beq n (wid a)with
  | true=>zeF a (zkW f n 0)
  | false=>none
 | _,_=>none
theorem zfM{x:PV}{l:List UInt8}(h:zya x=some l):x=.str l:=by cases x <;> cases h;rfl
theorem zk2{x:PV}{l:Bool}(h:zyc x=some l):x=.bool l:=by cases x <;> cases h;rfl
theorem zcH{k:IntKind}{x:PV}{l:Int}(h:zp9 k x=some l):x=.int k l:=by
 cases x <;> simp only[zp9,reduceCtorEq]at h
 split at h
 .rename_i hk;cases h;rw[ziA hk]
 .cases h
theorem zqa{x:PV}{l:List UInt8}(h:zyb x=some l){v:Value}(hv:zF M x v):zF M (.bytes l) v:=by
 cases x <;> cases h
 .cases hv;exact .bytesNil
 .exact hv
theorem zcY{a:Ec}{x:PV}{l:List (Elt a)}(h:zk1 a x=some l){v:Value}(hv:zF M x v):zF M (.list (wid a) (.dat a l)) v:=by
 cases x with
 | nil=>cases h;cases hv;exact .listNil _ _ rfl
 | list k R=>
  cases R with
  | fn n f=>cases h
  | dat a' l'=>
   simp only[zk1]at h
   split at h
   .rename_i he hk heq;subst he;cases h;rw[<-Nat.eq_of_beq_eq_true hk];exact hv
   .cases h
 | _=>cases h
theorem zd9:∀ {c:Ec} {ys:List PV} {a:Elt c},zeF c ys=some a->ys.length=wid c/\∀ j,j<wid c->∀ v,zF M (ys.getD j .bad) v->zF M (cell c a j) v:=by
 have one:∀ {x:PV} {c:Ec} {a:Elt c},wid c=1->(∀ v,zF M x v->zF M (cell c a 0) v)->[x].length=wid c/\∀ j,j<wid c->∀ v,zF M ([x].getD j .bad) v->zF M (cell c a j) v:=by
  intro x c a hw h
  refine⟨hw.symm,fun j hj v hv=>?_⟩
  have:j=0:=by omega
  subst this
  exact h v hv
 intro c
 induction c with
 | bool=>
  intro ys a h
  match ys,h with
  | [x],h=>exact one rfl fun v hv=>by rw[zk2 h]at hv;exact hv
 | int k=>
  intro ys a h
  match ys,h with
  | [x],h=>exact one rfl fun v hv=>by rw[zcH h]at hv;exact hv
 | str=>
  intro ys a h
  match ys,h with
  | [x],h=>exact one rfl fun v hv=>by rw[zfM h]at hv;exact hv
 | bytes=>
  intro ys a h
  match ys,h with
  | [x],h=>exact one rfl fun v hv=>zqa h hv
 | list b=>
  intro ys a h
  match ys,h with
  | [x],h=>exact one rfl fun v hv=>zcY h hv
 | pair a b iha ihb=>
  intro ys x h
  simp only[zeF]at h
  split at h
  .rename_i p q hp hq
   cases h
   obtain⟨l1,h1⟩:=iha hp
   obtain⟨l2,h2⟩:=ihb hq
   have l1':min (wid a) ys.length=wid a:=by rw[<-l1,List.length_take];omega
   have l2':ys.length-wid a=wid b:=by rw[<-l2,List.length_drop]
   refine⟨by simp only[wid];omega,fun j hj v hv=>?_⟩
   simp only[wid]at hj
   simp only[cell]
   cases hlt:Nat.blt j (wid a)with
   | true=>
    have hlt:j<wid a:=Nat.le_of_ble_eq_true hlt
    refine h1 j hlt v ?_
    rw[List.getD_eq_getElem?_getD,List.getElem?_take_of_lt hlt,<-List.getD_eq_getElem?_getD];exact hv
   | false=>
    have hge:wid a<=j:=by
     rcases Nat.lt_or_ge j (wid a)with h5|h5
     .have:Nat.blt j (wid a)=true:=Nat.ble_eq_true_of_le h5
      rw[this]at hlt;cases hlt
     .exact h5
    refine h2 (j-wid a) (by omega) v ?_
    rw[List.getD_eq_getElem?_getD,List.getElem?_drop,<-List.getD_eq_getElem?_getD]
    have e:wid a+(j-wid a)=j:=by omega
    rw[e];exact hv
  .cases h
 | part=>
  intro ys x h
  match ys,h with
  | [a,b,c,d,e,f,g,k],h=>
   simp only[zeF]at h
   split at h
   .rename_i ha hb hc hd he hf hg hk
    cases h
    refine⟨rfl,fun j hj v hv=>?_⟩
    simp only[wid]at hj
    match j,hj,hv with
    | 0,_,hv=>rw[show([a,b,c,d,e,f,g,k]:List PV).getD 0 .bad=a from rfl,zfM ha]at hv;exact hv
    | 1,_,hv=>exact zcY hb hv
    | 2,_,hv=>rw[show([a,b,c,d,e,f,g,k]:List PV).getD 2 .bad=c from rfl,zfM hc]at hv;exact hv
    | 3,_,hv=>rw[show([a,b,c,d,e,f,g,k]:List PV).getD 3 .bad=d from rfl,zk2 hd]at hv;exact hv
    | 4,_,hv=>rw[show([a,b,c,d,e,f,g,k]:List PV).getD 4 .bad=e from rfl,zcH he]at hv;exact hv
    | 5,_,hv=>rw[show([a,b,c,d,e,f,g,k]:List PV).getD 5 .bad=f from rfl,zcH hf]at hv;exact hv
    | 6,_,hv=>rw[show([a,b,c,d,e,f,g,k]:List PV).getD 6 .bad=g from rfl,zcH hg]at hv;exact hv
    | 7,_,hv=>exact zcY hk hv
   .cases h
 | node=>
  intro ys x h
  match ys,h with
  | [a,b,c,d,e],h=>
   simp only[zeF]at h
   split at h
   .rename_i ha hb hc hd he
    cases h
    refine⟨rfl,fun j hj v hv=>?_⟩
    simp only[wid]at hj
    match j,hj,hv with
    | 0,_,hv=>rw[show([a,b,c,d,e]:List PV).getD 0 .bad=a from rfl,zcH ha]at hv;exact hv
    | 1,_,hv=>rw[show([a,b,c,d,e]:List PV).getD 1 .bad=b from rfl,zcH hb]at hv;exact hv
    | 2,_,hv=>rw[show([a,b,c,d,e]:List PV).getD 2 .bad=c from rfl,zfM hc]at hv;exact hv
    | 3,_,hv=>exact zcY hd hv
    | 4,_,hv=>exact zcY he hv
   .cases h
 | box b ih=>
  intro ys x h
  match ys,h with
  | [.box n f],h=>
   simp only[zeF]at h
   split at h
   .rename_i hn
    have hn:=Nat.eq_of_beq_eq_true hn
    subst hn
    obtain⟨_,h2⟩:=ih h
    refine one rfl fun v hv=>?_
    cases hv with
    | box _ _ bl off g hM hx=>
     refine .box _ _ bl off g hM fun j hj=>?_
     refine h2 j hj _ ?_
     rw[zgG hj,Nat.zero_add];exact hx j hj
   .cases h
def zj8(c:Ec)(k:Nat):Nat->List PV->Option (List (Elt c))
 | 0,_=>some []
 | n+1,l=>match zeF c (l.take k),zj8 c k n (l.drop k)with
  | some a,some r=>some (a::r)
  | _,_=>none
def zxZ(k n:Nat)(l:List PV):Rows:=.fn n fun i j=>l.getD (i*k+j) .bad
def mkR(oc:Option Ec)(k n:Nat)(l:List PV):Rows:=
 match oc with
 | some c=>match Nat.beq k (wid c)with
  | true=>match zj8 c k n l with
   | some r=>.dat c r
   | none=>zxZ k n l
  | false=>zxZ k n l
 | none=>zxZ k n l
theorem zpa{c:Ec}{k:Nat}(hk:k=wid c):∀ {n:Nat} {l:List PV} {r:List (Elt c)},zj8 c k n l=some r->r.length=n/\
 ∀ i j,i<n->j<k->∀ v,zF M (l.getD (i*k+j) .bad) v->zF M (cell c (r.getD i (dfl c)) j) v:=by
 intro n
 induction n with
 | zero=>intro l r h;cases h;exact⟨rfl,fun i j hi=>absurd hi (Nat.not_lt_zero _)⟩
 | succ n ih=>
  intro l r h
  simp only[zj8]at h
  split at h
  .rename_i a r' ha hr
   cases h
   obtain⟨h1,h2⟩:=ih hr
   obtain⟨h3,h4⟩:=zd9 (M:=M) ha
   refine⟨by simp[h1],fun i j hi hj v hv=>?_⟩
   cases i with
   | zero=>
    simp only[List.getD_cons_zero]
    refine h4 j (by omega) v ?_
    rw[Nat.zero_mul,Nat.zero_add]at hv
    rw[List.getD_eq_getElem?_getD,List.getElem?_take_of_lt hj,<-List.getD_eq_getElem?_getD];exact hv
   | succ i=>
    simp only[List.getD_cons_succ]
    refine h2 i j (by omega) hj v ?_
    rw[List.getD_eq_getElem?_getD,List.getElem?_drop,<-List.getD_eq_getElem?_getD]
    have e:k+(i*k+j)=(i+1)*k+j:=by rw[Nat.add_mul,Nat.one_mul];omega
    rw[e];exact hv
  .cases h
theorem zyt(oc:Option Ec)(k n:Nat)(l:List PV):(mkR oc k n l).n=n/\∀ i j,i<n->j<k->∀ v,zF M (l.getD (i*k+j) .bad) v->zF M ((mkR oc k n l).f i j) v:=by
 have raw:(zxZ k n l).n=n/\∀ i j,i<n->j<k->∀ v,zF M (l.getD (i*k+j) .bad) v->zF M ((zxZ k n l).f i j) v:=⟨rfl,fun _ _ _ _ _ h=>h⟩
 unfold mkR
 split
 .split
  .rename_i hk
   split
   .rename_i hr;exact zpa (Nat.eq_of_beq_eq_true hk) hr
   .exact raw
  .exact raw
 .exact raw
def zBs(oc:Option Ec)(n:Nat)(z:PV):Rows:=
 match oc with
 | some c=>match Nat.beq 1 (wid c)with
  | true=>match zeF c [z]with
   | some a=>.dat c (List.replicate n a)
   | none=>.fn n fun _ _=>z
  | false=>.fn n fun _ _=>z
 | none=>.fn n fun _ _=>z
theorem zvD(oc:Option Ec)(n:Nat)(z:PV):(zBs oc n z).n=n/\∀ i j,i<n->j<1->∀ v,zF M z v->zF M ((zBs oc n z).f i j) v:=by
 have raw:(Rows.fn n fun _ _=>z).n=n/\∀ i j,i<n->j<1->∀ v,zF M z v->zF M ((Rows.fn n fun _ _=>z).f i j) v:=⟨rfl,fun _ _ _ _ _ h=>h⟩
 unfold zBs
 split
 .split
  .rename_i hk
   split
   .rename_i ha
    obtain⟨_,h4⟩:=zd9 (M:=M) ha
    refine⟨List.length_replicate,fun i j hi hj v hv=>?_⟩
    have:j=0:=by omega
    subst this
    have hk:=Nat.eq_of_beq_eq_true hk
    simp only[Rows.f]
    rw[List.getD_eq_getElem?_getD,List.getElem?_replicate,if_pos hi]
    exact h4 0 (by omega) v hv
   .exact raw
  .exact raw
 .exact raw
def zpd(n:Nat)(f g:Nat->Nat->PV):Nat->Nat->PV:=fun i j=>match Nat.blt i n with|true=>f i j|false=>g (i-n) j
def zeP:Rows->Rows->Rows
 | .dat c l,.dat c' l'=>match decEq c' c with
  | .isTrue h=>.dat c (l++(h ▸ l':List (Elt c)))
  | .isFalse _=>.fn (l.length+l'.length) (zpd l.length (Rows.dat c l).f (Rows.dat c' l').f)
 | .dat c l,.fn 0 _=>.dat c l
 | a,b=>.fn (a.n+b.n) (zpd a.n a.f b.f)
theorem zCG{n:Nat}{f g:Nat->Nat->PV}{i j:Nat}(h:i<n):zpd n f g i j=f i j:=by
 unfold zpd
 have:Nat.blt i n=true:=Nat.ble_eq_true_of_le h
 rw[this]
theorem zCH{n:Nat}{f g:Nat->Nat->PV}{i j:Nat}(h:n<=i):zpd n f g i j=g (i-n) j:=by
 unfold zpd
 cases hlt:Nat.blt i n with
 | true=>exact absurd (Nat.le_of_ble_eq_true hlt:i<n) (by omega)
 | false=>rfl
theorem zwB(a b:Rows):(zeP a b).n=a.n+b.n/\(∀ i j,i<a.n->(zeP a b).f i j=a.f i j)/\(∀ i j,a.n<=i->i<a.n+b.n->(zeP a b).f i j=b.f (i-a.n) j):=by
 have raw:∀ a b:Rows,(Rows.fn (a.n+b.n) (zpd a.n a.f b.f)).n=a.n+b.n/\(∀ i j,i<a.n->(Rows.fn (a.n+b.n) (zpd a.n a.f b.f)).f i j=a.f i j)/\(∀ i j,a.n<=i->i<a.n+b.n->(Rows.fn (a.n+b.n) (zpd a.n a.f b.f)).f i j=b.f (i-a.n) j):=
  fun a b=>⟨rfl,fun i j h=>zCG h,fun i j h _=>zCH h⟩
 unfold zeP
 split
 .rename_i c l c' l'
  split
  .rename_i h _
   subst h
   refine⟨by simp[Rows.n],fun i j hi=>?_,fun i j hi _=>?_⟩
   .simp only[Rows.n]at hi
    simp only[Rows.f]
    rw[List.getD_eq_getElem?_getD,List.getElem?_append_left hi,<-List.getD_eq_getElem?_getD]
   .simp only[Rows.n]at hi
    simp only[Rows.f,Rows.n]
    rw[List.getD_eq_getElem?_getD,List.getElem?_append_right hi,<-List.getD_eq_getElem?_getD]
  .exact raw (.dat c l) (.dat c' l')
 .exact ⟨rfl,fun _ _ _=>rfl,fun i j h1 h2=>absurd h2 (by simp[Rows.n]at h1 ⊢;omega)⟩
 .exact raw _ _
def zcA(f:Nat->Nat->PV)(i j m:Nat)(ps:List PV):Nat->Nat->PV:=
 fun i' j'=>match Nat.beq i' i&&Nat.ble j j'&&Nat.blt j' (j+m)with|true=>ps.getD (j'-j) .bad|false=>f i' j'
def zD3(f:Nat->PV)(j m:Nat)(ps:List PV):Nat->PV:=
 fun j'=>match Nat.ble j j'&&Nat.blt j' (j+m)with|true=>ps.getD (j'-j) .bad|false=>f j'
theorem zvx(f:Nat->Nat->PV)(i j m:Nat)(ps:List PV)(j':Nat):zcA f i j m ps i j'=zD3 (f i) j m ps j':=by
 unfold zcA zD3
 rw[Nat.beq_refl,Bool.true_and]
def zBf(R:Rows)(k i j m:Nat)(ps:List PV):Rows:=
 match R with
 | .dat c l=>match Nat.beq k (wid c)with
  | true=>match zeF c (zkW (zD3 ((Rows.dat c l).f i) j m ps) k 0)with
   | some a=>.dat c (l.set i a)
   | none=>.fn R.n (zcA R.f i j m ps)
  | false=>.fn R.n (zcA R.f i j m ps)
 | .fn _ _=>.fn R.n (zcA R.f i j m ps)
theorem zBg{f:Nat->Nat->PV}{i j m i' j':Nat}{ps:List PV}(h:i'≠i):zcA f i j m ps i' j'=f i' j':=by
 unfold zcA
 cases hb:Nat.beq i' i with
 | true=>exact absurd (Nat.eq_of_beq_eq_true hb) h
 | false=>rfl
theorem zvw(R:Rows)(k i j m:Nat)(ps:List PV):(zBf R k i j m ps).n=R.n/\∀ i' j',i'<R.n->j'<k->∀ v,zF M (zcA R.f i j m ps i' j') v->zF M ((zBf R k i j m ps).f i' j') v:=by
 have raw:(Rows.fn R.n (zcA R.f i j m ps)).n=R.n/\∀ i' j',i'<R.n->j'<k->∀ v,zF M (zcA R.f i j m ps i' j') v->zF M ((Rows.fn R.n (zcA R.f i j m ps)).f i' j') v:=⟨rfl,fun _ _ _ _ _ h=>h⟩
 unfold zBf
 split
 .rename_i c l
  split
  .rename_i hk
   have hk:=Nat.eq_of_beq_eq_true hk
   split
   .rename_i a ha
    obtain⟨_,h4⟩:=zd9 (M:=M) ha
    refine⟨List.length_set,fun i' j' hi hj v hv=>?_⟩
    simp only[Rows.n]at hi
    by_cases e:i'=i
    .subst e
     simp only[Rows.f]
     rw[List.getD_eq_getElem?_getD,List.getElem?_set_self hi]
     refine h4 j' (by omega) v ?_
     rw[zgG hj,Nat.zero_add,<-zvx]
     exact hv
    .rw [zBg e]at hv
     simp only[Rows.f]at hv ⊢
     rw[List.getD_eq_getElem?_getD,List.getElem?_set_ne (fun h=>e h.symm),<-List.getD_eq_getElem?_getD]
     exact hv
   .exact raw
  .exact raw
 .exact raw
def zq4(l:List (Option Ec)):Option Ec:=
 match l with
 | []=>none
 | [x]=>x
 | x::r=>match x,zq4 r with
  | some a,some b=>some (.pair a b)
  | _,_=>none
def zq3(P:Program):Nat->TypeId->Option Ec
 | 0,_=>none
 | n+1,t=>match P.underlying t with
  | some .bool=>some .bool
  | some (.int k)=>some (.int k)
  | some .string=>some .str
  | some (.slice e)=>match P.underlying e with
   | some (.int .u8)=>some .bytes
   | _=>(zq3 P n e).map .list
  | some (.pointer e)=>(zq3 P n e).map .box
  | some (.struct fs)=>match fs.toList.reverse with
   | x::_=>match (match P.underlying x.type with|some (.slice e)=>Nat.beq e t|_=>false),fs.size with
    | true,8=>some .part
    | true,5=>some .node
    | true,_=>none
    | false,_=>zq4 (fs.toList.map fun f=>zq3 P n f.type)
   | []=>none
  | _=>none
end Go.Am
/-! The soundness of 'evP'. -/
namespace Go.Am
open Go Go.RowKit
variable {P:Program}{γ:Nat->Option G}{M:Mem}
inductive ARels(γ:Nat->Option G)(M:Mem):List AV->List Value->Prop
 | nil:ARels γ M [] []
 | cons {x:AV} {v:Value} {xs:List AV} {vs:List Value} (h:ARel γ M x v) (t:ARels γ M xs vs):ARels γ M (x::xs) (v::vs)
theorem ARels.length{xs:List AV}{vs:List Value}(h:ARels γ M xs vs):vs.length=xs.length:=by
 induction h with
 | nil=>rfl
 | cons _ _ ih=>simp[ih]
theorem ARels.get{xs:List AV}{vs:List Value}(h:ARels γ M xs vs):∀ i,i<xs.length->ARel γ M (xs.getD i .any) (vs.getD i undef):=by
 induction h with
 | nil=>intro i hi;exact absurd hi (Nat.not_lt_zero _)
 | cons h _ ih=>
  intro i hi
  cases i with
  | zero=>exact h
  | succ i=>exact ih i (by simpa using hi)
theorem ARels.map{ρ:Operand->Value}{σ:Operand->AV}(h:∀ x,ARel γ M (σ x) (ρ x)):∀ l:List Operand,ARels γ M (l.map σ) (l.map ρ)
 | []=>.nil
 | x::l=>.cons (h x) (ARels.map h l)
theorem ARels.take{xs:List AV}{vs:List Value}(h:ARels γ M xs vs):∀ n,ARels γ M (xs.take n) (vs.take n):=by
 induction h with
 | nil=>intro n;simp;exact .nil
 | cons h _ ih=>intro n;cases n with
  | zero=>exact .nil
  | succ n=>exact .cons h (ih n)
theorem ARels.drop{xs:List AV}{vs:List Value}(h:ARels γ M xs vs):∀ n,ARels γ M (xs.drop n) (vs.drop n):=by
 induction h with
 | nil=>intro n;simp;exact .nil
 | cons h t ih=>intro n;cases n with
  | zero=>exact .cons h t
  | succ n=>exact ih n
theorem ARel.p_inv{x:PV}{v:Value}(h:ARel γ M (.p x) v):zF M x v:=by cases h;assumption
theorem ARel.int_inv{k:IntKind}{n:Int}{v:Value}(h:ARel γ M (.p (.int k n)) v):v=.int k n/\k.has n:=h.p_inv.int_inv
theorem ARel.str_inv{l:List UInt8}{v:Value}(h:ARel γ M (.p (.str l)) v):v=.string ⟨l.toArray⟩/\l.length<=maxLen:=h.p_inv.str_inv
theorem ARel.bool_inv{b:Bool}{v:Value}(h:ARel γ M (.p (.bool b)) v):v=.bool b:=h.p_inv.bool_inv
theorem ARel.gd_inv{c:Bool}{x:AV}{v:Value}(h:ARel γ M (.gd c x) v)(hc:c=true):ARel γ M x v:=by cases h with|gd _ _ _ h _=>exact h hc
theorem zp{b:Bool}{α:Type}{x y:α}(h:yI b x=some y):b=true/\x=y:=by
 cases b
 .cases h
 .cases h;exact⟨rfl,rfl⟩
theorem zmj{t:TypeId}(ht:zaP P t=true)(l:List UInt8)(k:IntKind)(i:Int)(h0:0<=i)(h1:i<(l.length:Int))(w:World):
 (Instr.index t (.string ⟨l.toArray⟩) (.int k i)).run P w=.ok (.int .u8 ((l.getD i.toNat 0).toNat:Int)) w:=by
 have hi:i.toNat<l.length:=by omega
 have e:(⟨l.toArray⟩:ByteArray)[i.toNat]?=some (l.getD i.toNat 0):=by
  rw[getElem?_pos (⟨l.toArray⟩:ByteArray) i.toNat (by simpa[ByteArray.size]using hi)]
  simp only[List.getD_eq_getElem?_getD,List.getElem?_eq_getElem hi,Option.getD_some]
  rfl
 simp only[Instr.index,asIntOf]
 simp[run_underlying (zbz ht),h0,e]
theorem yH{n:Nat}(h:n<=maxLen):IntKind.i64.has (n:Int):=zfY (by unfold maxLen at h;unfold zQ;omega)
theorem zfa(l:List UInt8)(a b:Nat)(hb:b<=l.length):(⟨l.toArray⟩:ByteArray).extract a b=⟨((l.take b).drop a).toArray⟩:=by
 apply ByteArray.ext
 simp only[ByteArray.data_extract,List.extract_toArray,List.extract_eq_take_drop,List.drop_take]
theorem zfH{k:IntKind}{i:Int}{y:Nat}{c:BoundsCode}(h0:0<=i)(h1:i<=(y:Int))(w:World):
 (Instr.sliceBound (.int k i) y c).run P w=.ok i.toNat w:=by
 simp[Instr.sliceBound,asIntOf,h0,h1]
theorem zca{t:TypeId}(ht:zaP P t=true)(l:List UInt8)(lo hi:Option (IntKind×Int))
 (hlo:∀ k i,lo=some (k,i)->0<=i/\i<=(match hi with|some (_,j)=>j|none=>(l.length:Int)))
 (hhi:∀ k i,hi=some (k,i)->0<=i/\i<=(l.length:Int)) (w:World):
 (Instr.slice t (.string ⟨l.toArray⟩) (lo.map fun x=>.int x.1 x.2) (hi.map fun x=>.int x.1 x.2) none).run P w=
  .ok (.string ⟨((l.take (match hi with|some (_,j)=>j.toNat|none=>l.length)).drop (match lo with|some (_,i)=>i.toNat|none=>0)).toArray⟩) w:=by
 have hsz:(⟨l.toArray⟩:ByteArray).size=l.length:=by simp[ByteArray.size]
 have hu:=run_underlying (zbz ht)
 cases hi with
 | none=>
  cases lo with
  | none=>
   simp[Instr.slice,hu,Instr.sliceBounds]
  | some x=>
   obtain⟨k,i⟩:=x
   have:=hlo k i rfl
   simp only[Instr.slice,Instr.sliceBounds,Option.map_some,Option.map_none]
   simp[hu,zfH this.1 this.2,zfa,hsz]
 | some y=>
  obtain⟨k',j⟩:=y
  have hj:=hhi k' j rfl
  cases lo with
  | none=>
   simp only[Instr.slice,Instr.sliceBounds,Option.map_some,Option.map_none]
   simp[hu,zfH hj.1 hj.2,hsz]
   rw[zfa _ _ _ (by omega)]
   simp
  | some x=>
   obtain⟨k,i⟩:=x
   have:=hlo k i rfl
   simp only[Instr.slice,Instr.sliceBounds,Option.map_some]
   have h2:i<=(j.toNat:Int):=by have:=this.2;simp at this;omega
   simp[hu,zfH hj.1 hj.2,zfH this.1 h2,hsz]
   rw[zfa _ _ _ (by omega)]
theorem zgm{op:BinOp}{t:TypeId}{x y:Operand}{a b:Value}{p q:PV}(ha:zF M p a)(_hb:zF M q b)
 (h:∀ v,p≠.plain v) (w:World):(eqGuard op t x y a b).run P w=.ok () w:=by
 have h1:a≠.nilIface:=by
  cases ha <;> first
   | (intro e;cases e;done)
   | (exact absurd rfl (h _))
 have h2:∀ cs,a≠.agg cs:=by
  cases ha <;> first
   | (intro cs e;cases e;done)
   | (exact absurd rfl (h _))
 unfold eqGuard
 cases op <;> dsimp only <;> first
  | rfl
  | (simp only [Bool.not_true, Bool.false_eq_true, if_false]
     split
     .exact absurd rfl h1
     .exact absurd rfl (h2 _)
     .rfl)
theorem zv2{α:Type}(l:List α)(n i:Nat)(d:α)(h:i<n):(l.take n).getD i d=l.getD i d:=by
 simp[List.getD_eq_getElem?_getD,h]
theorem zv3{α:Type}(l:List α)(n i:Nat)(d:α):(l.drop n).getD i d=l.getD (n+i) d:=by
 simp[List.getD_eq_getElem?_getD]
theorem zfp{t:TypeId}{cs:List AV}{vs:Array Value}{off:Nat}{r:AV}(h:apart P t cs off=some r)
 (hs:vs.size=cs.length) (hx:∀ i,i<cs.length->ARel γ M (cs.getD i .any) (vs.getD i undef)) (w:World):
 ∃ v,(part t vs off).run P w=.ok v w/\ARel γ M r v:=by
 unfold apart at h
 cases ha:ziC P t with
 | none=>rw[ha]at h;cases h
 | some b=>
  cases hz:zax P t with
  | none=>rw[ha,hz]at h;cases b <;> cases h
  | some n=>
   rw[ha,hz]at h
   cases b with
   | true=>
    dsimp only at h
    split at h
    .rename_i hb
     cases h
     have hle:=Nat.le_of_ble_eq_true hb
     refine⟨.agg (vs.extract off (off+n)),by simp[part,zfG ha,yf hz],.agg _ _ ?_ ?_⟩
     .simp;omega
     .intro i hi
      have hi':i<n:=by simp at hi;omega
      rw[zv2 _ _ _ _ hi',zv3]
      have:=hx (off+i) (by omega)
      have e:(vs.extract off (off+n)).getD i undef=vs.getD (off+i) undef:=by
       simp only[Array.getD_eq_getD_getElem?]
       rw[Array.getElem?_extract]
       rw[if_pos (by omega)]
      rw[e];exact this
    .cases h
   | false=>
    dsimp only at h
    split at h
    .rename_i hb
     cases h
     have hlt:off<cs.length:=Nat.le_of_ble_eq_true hb
     have:=hx off hlt
     obtain⟨u,hv,hu⟩:∃ u,vs[off]?=some u/\vs.getD off undef=u:=
      ⟨vs[off]'(by omega),Array.getElem?_eq_getElem (by omega),by rw[Array.getD_eq_getD_getElem?,Array.getElem?_eq_getElem (by omega)];rfl⟩
     exact⟨u,by simp[part,zfG ha,hv],hu ▸ this⟩
    .cases h
theorem zhE{t f:Nat}{fd:Field}(h:zj5 P t f=some fd):∃ fs,P.underlying t=some (.struct fs)/\fs[f]?=some fd:=by
 unfold zj5 at h
 split at h
 .exact ⟨_,by assumption,h⟩
 .cases h
theorem zmp:∀ (xs:List AV) (vs:List Value) (a n:Int),zhV a xs=some n->ARels γ M xs vs->IntKind.i64.has a->∀ w,
 (vs.foldlM Builtin.min2 (.int .i64 a)).run P w=.ok (.int .i64 n) w/\IntKind.i64.has n:=by
 intro xs
 induction xs with
 | nil=>intro vs a n h hx ha w;cases hx;cases h;exact⟨rfl,ha⟩
 | cons x xs ih=>
  intro vs a n h hx ha w
  cases hx with
  | cons hv ht=>
   unfold zhV at h
   split at h
   .rename_i heq;cases heq
   .rename_i y r heq
    cases heq
    obtain⟨rfl,hy⟩:=hv.int_inv
    have:=ih _ _ _ h ht (by split <;> assumption) w
    simp only[List.foldlM_cons]
    rw[Sem.run_bind]
    simp only[Builtin.min2,Sem.run_pure,Result.andThen_ok]
    exact this
   .cases h
theorem zmq:∀ (xs:List AV) (vs:List Value) (a n:Int),zhW a xs=some n->ARels γ M xs vs->IntKind.i64.has a->∀ w,
 (vs.foldlM Builtin.max2 (.int .i64 a)).run P w=.ok (.int .i64 n) w/\IntKind.i64.has n:=by
 intro xs
 induction xs with
 | nil=>intro vs a n h hx ha w;cases hx;cases h;exact⟨rfl,ha⟩
 | cons x xs ih=>
  intro vs a n h hx ha w
  cases hx with
  | cons hv ht=>
   unfold zhW at h
   split at h
   .rename_i heq;cases heq
   .rename_i y r heq
    cases heq
    obtain⟨rfl,hy⟩:=hv.int_inv
    have:=ih _ _ _ h ht (by split <;> assumption) w
    simp only[List.foldlM_cons]
    rw[Sem.run_bind]
    simp only[Builtin.max2,Sem.run_pure,Result.andThen_ok]
    exact this
   .cases h
end Go.Am
namespace Go.Am
open Go Go.RowKit
variable {P:Program}{γ:Nat->Option G}{M:Mem}
theorem ztx{op:BinOp}{x y:PV}{r:PV}{ok:Option Prop}(h:zrx op x y=some (r,ok))(hok:okP ok){a b:Value}
 (ha:zF M x a) (hb:zF M y b) (t:TypeId) (hnb:∀ c,x≠.bool c) (w:World):∃ v,(binOp op t a b).run P w=.ok v w/\zF M r v:=by
 unfold zrx at h
 split at h
 .rename_i k m k' n
  obtain⟨rfl,ha'⟩:=ha.int_inv
  obtain⟨rfl,hb'⟩:=hb.int_inv
  split at h
  .cases h
   have:¬ n<0:=by omega
   exact⟨_,by simp[binOp,Op.shift,this],.int _ _ (zce _ _)⟩
  .cases h
   have:¬ n<0:=by omega
   exact⟨_,by simp[binOp,Op.shift,this],.int _ _ (zzq ha' _)⟩
  .split at h
   .rename_i hk
    cases ziA hk
    exact zmE h hok ha' hb' t w
   .cases h
 .obtain ⟨rfl,_⟩:=ha.str_inv
  obtain⟨rfl,_⟩:=hb.str_inv
  exact zmD h hok t w
 .exact absurd rfl (hnb _)
 .cases h
theorem zhw{t:TypeId}(h:zfU P t=true):P.underlying t=some .bool:=by
 unfold zfU at h;split at h
 .assumption
 .cases h
theorem zl7{op:BinOp}{p q:Bool}{r:PV}{ok:Option Prop}(h:zrx op (.bool p) (.bool q)=some (r,ok))(t:TypeId)
 (ht:zfU P t=true) (w:World):∃ v,(binOp op t (.bool p) (.bool q)).run P w=.ok v w/\zF M r v:=by
 have hu:=zhw ht
 cases op <;> simp only[zrx,reduceCtorEq,Option.some.injEq]at h <;> cases h
 .exact ⟨.bool (p==q),by simp[binOp,zi8 _ _ _ _ hu],.bool _⟩
 .exact ⟨.bool (p != q),by simp[binOp,zi8 _ _ _ _ hu] <;> cases p <;> cases q <;> rfl,.bool _⟩
theorem zrw{d s:TypeId}{x r:PV}(h:zAn P d x=some r)(hd:∃ e,P.underlying s=some e){a:Value}(ha:zF M x a)(w:World):
 ∃ v,(convert s d a).run P w=.ok v w/\zF M r v:=by
 obtain⟨e,he⟩:=hd
 unfold zAn at h
 split at h
 .rename_i k s' n hu
  obtain⟨rfl,hn⟩:=ha.int_inv
  split at h
  .rename_i hf
   cases h
   have:=zzm hf hn
   exact⟨.int k n,by simp[convert,run_underlying he,run_underlying hu,Conv.intToInt,yS this],.int _ _ this⟩
  .cases h
   exact⟨_,by simp[convert,run_underlying he,run_underlying hu,Conv.intToInt],.int _ _ (zce _ _)⟩
 .rename_i l hu
  cases h
  obtain⟨rfl,hl⟩:=ha.str_inv
  refine⟨.string ⟨l.toArray⟩,?_,.str _ hl⟩
  simp[convert,run_underlying he,run_underlying hu]
 .cases h
theorem zqy{t:TypeId}(h:zyO P t=true):∃ e,P.underlying t=some e:=Option.isSome_iff_exists.1 h
theorem map_some{α β:Type}{x:Option α}{f:α->β}{y:β}(h:x.map f=some y):∃ a,x=some a/\f a=y:=by
 cases x with
 | none=>cases h
 | some a=>exact⟨a,rfl,by injection h⟩
theorem zqZ{c:Bool}{x r:AV}{ok:Option Prop}(h:zzA c x=some (r,ok))(hok:okP ok){a b:Value}(ha:ARel γ M x a)(hb:b=.bool false):
 ARel γ M r (if c then a else b):=by
 subst hb
 unfold zzA at h
 split at h
 .cases h
  cases c
  .exact .p _ _ (.bool false)
  .have:=ha.gd_inv (hok rfl)
   rw[this.bool_inv];exact .p _ _ (.bool _)
 .cases h
  rw[ha.bool_inv]
  cases c <;> exact .p _ _ (.bool _)
 .cases h
theorem zsU{c:Bool}{x r:AV}{ok:Option Prop}(h:zEW c x=some (r,ok))(hok:okP ok){a b:Value}(ha:ARel γ M x a)(hb:b=.bool true):
 ARel γ M r (if c then b else a):=by
 subst hb
 unfold zEW at h
 split at h
 .cases h
  cases c
  .have:=ha.gd_inv (hok rfl)
   rw[this.bool_inv];exact .p _ _ (.bool _)
  .exact .p _ _ (.bool true)
 .cases h
  rw[ha.bool_inv]
  cases c <;> exact .p _ _ (.bool _)
 .cases h
theorem zdU{x:Operand}{b:Bool}(h:zdt x=some b):x=.const (.bool b):=by
 unfold zdt at h
 split at h
 .cases h;rfl
 .cases h
def Lits(ρ:Operand->Value):Prop:=∀ v,ρ (.const v)=v
theorem zjM{k:Nat}{x r:AV}(h:zih k x=some r){v:Value}(hx:ARel γ M x v):
 ∃ b off,v=.pointer (some ⟨b,off,none⟩)/\ARel γ M r (.pointer (some ⟨b,off+k,none⟩)):=by
 unfold zih at h
 split at h
 .cases h
  cases hx with
  | ref id off b hb=>exact⟨_,_,rfl,.ref _ _ _ hb⟩
 .split at h
  .rename_i hk
   cases h
   have hk:=Nat.le_of_ble_eq_true hk
   cases hx.p_inv with
   | box n f b off g hM hf=>
    refine⟨b,off,rfl,.p _ _ (.box _ _ _ _ (fun j=>g (k+j)) (fun j hj=>?_) (fun j hj=>hf _ (by omega)))⟩
    have:=hM (k+j) (by omega)
    rw[<-Nat.add_assoc]at this;exact this
  .cases h
 .rename_i id i off
  cases h
  cases hx with
  | aptr _ _ _ g k' n cap hb=>exact⟨g,_,rfl,by have:=ARel.aptr (M:=M) id i (off+k) g k' n cap hb;rw[<-Nat.add_assoc]at this;exact this⟩
 .cases h
theorem zC(b off k:Nat):(⟨b,off,none⟩:Addr).add k=⟨b,off+k,none⟩:=by
 unfold Addr.add
 split
 .simp_all
 .rfl
theorem zgq{t:TypeId}{k:Nat}(h:zaS P t=some k):∃ e,P.underlying t=some (.slice e)/\zax P e=some k:=by
 unfold zaS at h
 split at h
 .rename_i e he;exact⟨e,zam he,h⟩
 .cases h
theorem yT{t:TypeId}{k:Nat}(h:zaS P t=some k)(b off n cap:Nat)(kk:IntKind)(i:Int)(h0:0<=i)(h1:i<(n:Int))(w:World):
 (Instr.indexAt t (.slice (some ⟨b,off,none⟩) n cap) (.int kk i)).run P w=.ok (.pointer (some ⟨b,off+i.toNat*k,none⟩)) w:=by
 obtain⟨e,hu,hs⟩:=zgq h
 simp[Instr.indexAt,asIntOf,run_underlying hu,h0,h1,yf hs,zC]
theorem zf8{l:List UInt8}{v:Value}(h:zF M (.bytes l) v):
 (l=[]/\v=.slice none 0 0)\/∃ b off cap,v=.slice (some ⟨b,off,none⟩) l.length cap/\l.length<=maxLen/\l.length<=cap/\∀ i c,l[i]?=some c->M b (off+i)=some (zq c):=by
 cases h with
 | bytesNil=>exact .inl ⟨rfl,rfl⟩
 | bytes l b off cap hm hc h=>exact .inr ⟨b,off,cap,rfl,hm,hc,h⟩
theorem zbk{t:TypeId}(ht:zaP P t=true)(x:Value)(lo hi mx:Option Value)(w:World):
 (Instr.sliceAt t x lo hi mx).run P w=(Instr.slice t x lo hi mx).run P w:=by
 simp[Instr.sliceAt,run_underlying (zbz ht)]
theorem zfr{cs:List AV}{v:Value}(h:ARel γ M (.agg cs) v):∃ vs,v=.agg vs/\vs.size=cs.length/\∀ i,i<cs.length->ARel γ M (cs.getD i .any) (vs.getD i undef):=by
 cases h with|agg _ vs hs h=>exact⟨vs,rfl,hs,h⟩
theorem zo2(d:Nat){t:TypeId}{x y:AV}{c:Bool}(h:zs1 P t x y=some c){a b:Value}(ha:ARel γ M x a)(hb:ARel γ M y b)(w:World):(Op.equalIn (d+1) t a b).run P w=.ok c w:=by
 unfold zs1 at h
 split at h
 .split at h
  .rename_i ht
   cases h
   have hu:P.underlying t=some .string:=by unfold zuy at ht;split at ht;assumption;cases ht
   rw[ha.str_inv.1,hb.str_inv.1,run_equalIn_string w d t _ _ hu]
   simp[ByteArray.toList_eq]
  .cases h
 .split at h
  .rename_i _ _ hk hu
   cases h
   have hk:=ziA hk
   subst hk
   rw[ha.int_inv.1,hb.int_inv.1]
   exact run_equalIn_int w d t _ _ _ _ hu
  .cases h
 .split at h
  .rename_i ht
   cases h
   rw[ha.bool_inv,hb.bool_inv]
   exact run_equalIn_bool' w d t _ _ (zhw ht)
  .cases h
 .cases h
theorem zhJ(d:Nat){xs ys:List AV}{vx vy:Array Value}(hx:ARel γ M (.agg xs) (.agg vx))(hy:ARel γ M (.agg ys) (.agg vy))(w:World):∀ {fs:List Field} {c:Bool},zo1 P xs ys fs=some c->(Op.eqFields (d+1) vx vy fs).run P w=.ok c w
 | [],c,h=>by cases h;rfl
 | f::fs,c,h=>by
  obtain⟨vx',ex,hsx,hrx⟩:=zfr hx
  obtain⟨vy',ey,hsy,hry⟩:=zfr hy
  cases ex;cases ey
  simp only[zo1]at h
  split at h
  .rename_i hn
   split at h
   .rename_i a b h1 h2
    split at h
    .rename_i c1 hc
     split at h
     .rename_i r hr
      cases h
      obtain⟨u,hu,hru⟩:=zfp h1 hsx hrx w
      obtain⟨v,hv,hrv⟩:=zfp h2 hsy hry w
      have hne:f.name≠ "_":=by simpa using hn
      simp only[Op.eqFields]
      rw[if_pos hne]
      simp only[Sem.run_bind,hu,hv,Result.andThen_ok,zo2 d hc hru hrv w]
      cases c1 with
      | true=>simpa using zhJ d hx hy w hr
      | false=>simp[Sem.run_pure]
     .cases h
    .cases h
   .cases h
  .cases h
theorem zqY{op:BinOp}{t:TypeId}{u u' r:AV}{ok:Option Prop}(h:zuQ P op t [u,u']=some (r,ok))(hok:okP ok){a b:Value}
 (ha:ARel γ M u a) (hb:ARel γ M u' b) (x y:Operand) (w:World):
 ∃ v,(do eqGuard op t x y a b;binOp op t a b:Sem Value).run P w=.ok v w/\ARel γ M r v:=by
 cases u with
 | p p=>
  cases u' with
  | p q=>
   dsimp only[zuQ]at h
   cases hbp:zoE p with
   | true=>
    rw[hbp]at h
    dsimp only at h
    cases ht:zfU P t with
    | false=>rw[ht]at h;cases h
    | true=>
     rw[ht]at h
     obtain⟨⟨r',ok'⟩,hab,hr⟩:=map_some h
     cases hr
     cases p <;> simp only[zoE,reduceCtorEq]at hbp
     rename_i p
     cases q with
     | bool q=>
      obtain⟨v,hv,hrel⟩:=zl7 (P:=P) (M:=M) hab t ht w
      have e1:=ha.bool_inv
      have e2:=hb.bool_inv
      have hg:=zgm (P:=P) (op:=op) (t:=t) (x:=x) (y:=y) ha.p_inv hb.p_inv (by intro v e;cases e) w
      rw[e1,e2]at hg
      exact⟨v,by rw[e1,e2,Sem.run_bind,hg];exact hv,.p _ _ hrel⟩
     | _=>simp[zrx]at hab
   | false=>
    rw[hbp]at h
    obtain⟨⟨r',ok'⟩,hab,hr⟩:=map_some h
    cases hr
    obtain⟨v,hv,hrel⟩:=ztx (P:=P) (M:=M) hab hok ha.p_inv hb.p_inv t (by intro c e;subst e;cases hbp) w
    have hg:=zgm (P:=P) (op:=op) (t:=t) (x:=x) (y:=y) ha.p_inv hb.p_inv (by intro v e;subst e;simp[zrx]at hab) w
    exact⟨v,by rw[Sem.run_bind,hg];exact hv,.p _ _ hrel⟩
  | _=>cases h
 | agg xs=>
  cases u' with
  | agg ys=>
   obtain⟨vx,rfl,hsx,hrx⟩:=zfr ha
   obtain⟨vy,rfl,hsy,hry⟩:=zfr hb
   dsimp only[zuQ]at h
   split at h
   .rename_i ht
    unfold zmT at ht
    rw[Bool.and_eq_true,Bool.and_eq_true,Bool.not_eq_true',Bool.not_eq_true']at ht
    obtain⟨h1,h2,h3⟩:=ht
    have hu:P.underlying t=some (.struct (P.fieldsOf t)):=by
     unfold Program.fieldsOf
     split at h1
     .rename_i fs he;rw[he]
     .cases h1
    split at h
    .rename_i c hc
     have hg:=run_eqGuard_agg (P:=P) w op t x y vx vy h3
     have he:=(run_equalIn_agg (P:=P) w 9999 t vx vy hu h2).trans (zhJ 9998 ha hb w hc)
     split at h
     .cases h
      refine⟨.bool c,?_,.p _ _ (.bool _)⟩
      rw[Sem.run_bind,hg,Result.andThen_ok,run_eql_struct,he];rfl
     .cases h
      refine⟨.bool (!c),?_,.p _ _ (.bool _)⟩
      rw[Sem.run_bind,hg,Result.andThen_ok,run_neq_struct,he];rfl
     .cases h
    .cases h
   .cases h
  | _=>cases h
 | _=>cases h
theorem zmt{t:TypeId}{lo hi:Option Operand}{x:Operand}{ρ:Operand->Value}{xs:List AV}{r:AV}{ok:Option Prop}
 (h:zoX P t lo.isSome hi.isSome xs=some (r,ok)) (hok:okP ok)
 (hx:ARels γ M xs (ρ x::((lo.toList++hi.toList).map ρ))) (w:World):
 ∃ v,(Instr.sliceAt t (ρ x) (lo.map ρ) (hi.map ρ) none).run P w=.ok v w/\ARel γ M r v:=by
 unfold zoX at h
 split at h
 .rename_i l
  cases lo <;> cases hi <;> dsimp only[Option.isSome]at h <;> first|(cases h;done)|skip
  cases hx with
  | cons ha _=>
   obtain⟨ht,he⟩:=zp h
   cases he
   obtain⟨e1,hm⟩:=ha.str_inv
   rw[zbk ht,e1]
   have:=zca (P:=P) ht l none none (by simp) (by simp) w
   simp only[Option.map_none,List.take_length,List.drop_zero]at this
   exact⟨_,this,.p _ _ (.str _ hm)⟩
 .rename_i l kk i
  cases lo <;> cases hi <;> dsimp only[Option.isSome]at h <;> first|(cases h;done)|skip
  .rename_i j
   cases hx with
   | cons ha hx=>cases hx with
    | cons hb _=>
     obtain⟨ht,he⟩:=zp h
     cases he
     obtain⟨e1,hm⟩:=ha.str_inv
     have e2:=hb.int_inv.1
     rw[zbk ht,e1]
     have:=zca (P:=P) ht l none (some (kk,i)) (by simp) (by intro k i he;cases he;exact hok) w
     simp only[Option.map_none,Option.map_some,List.drop_zero]at this ⊢
     rw[e2]
     refine⟨_,this,.p _ _ (.str _ ?_)⟩
     simp;omega
  .rename_i j
   cases hx with
   | cons ha hx=>cases hx with
    | cons hb _=>
     obtain⟨ht,he⟩:=zp h
     cases he
     obtain⟨e1,hm⟩:=ha.str_inv
     have e2:=hb.int_inv.1
     rw[zbk ht,e1]
     have:=zca (P:=P) ht l (some (kk,i)) none (by intro k i he;cases he;exact hok) (by simp) w
     simp only[Option.map_none,Option.map_some,List.take_length]at this ⊢
     rw[e2]
     refine⟨_,this,.p _ _ (.str _ ?_)⟩
     simp;omega
 .rename_i l k1 i k2 j
  cases lo <;> cases hi <;> dsimp only[Option.isSome]at h <;> first|(cases h;done)|skip
  cases hx with
  | cons ha hx=>cases hx with
   | cons hb hx=>cases hx with
    | cons hc _=>
     obtain⟨ht,he⟩:=zp h
     unfold zAg at he
     cases he
     obtain⟨e1,hm⟩:=ha.str_inv
     have e2:=hb.int_inv.1
     have e3:=hc.int_inv.1
     rw[zbk ht,e1]
     have:=zca (P:=P) ht l (some (k1,i)) (some (k2,j)) (by intro k i he;cases he;exact⟨hok.1,hok.2.1⟩) (by intro k i he;cases he;exact⟨by omega,hok.2.2⟩) w
     simp only[Option.map_some]at this ⊢
     rw[e2,e3]
     refine⟨_,this,.p _ _ (.str _ ?_)⟩
     simp;omega
 .rename_i k a l kk i
  cases he:zaS P t with
  | none=>rw[he]at h;cases lo <;> cases hi <;> cases h
  | some k'=>
   rw[he]at h
   cases lo <;> cases hi <;> dsimp only[Option.isSome]at h <;> first|(cases h;done)|skip
   rename_i j
   cases hx with
   | cons ha hx=>cases hx with
    | cons hb _=>
     obtain⟨hk,hh⟩:=zp h
     cases hh
     have hk:k=k':=by simpa using hk
     subst hk
     have e2:=hb.int_inv.1
     obtain⟨h0,h1⟩:0<=i/\i<=(l.length:Int):=hok
     obtain⟨e,hu,hs⟩:=zgq he
     have hel:P.elem t=e:=by simp[Program.elem,hu]
     obtain⟨m,rfl⟩:=Int.eq_ofNat_of_zero_le h0
     have hm:m<=l.length:=by omega
     have hrun:∀ (a':Option Addr) (cap:Nat),ρ x=.slice a' l.length cap->
      (Instr.sliceAt t (ρ x) ((some j).map ρ) ((none:Option Operand).map ρ) none).run P w=.ok (sliced a' m l.length cap k) w:=by
      intro a' cap e1
      have hs2:=run_slice_l (P:=P) (w:=w) t a' l.length cap (by rw[hel];exact hu) kk (m:Int) (by omega) (by omega)
      have h3:=run_sliceAt_slice (P:=P) (w:=w) t (ρ x) (some (ρ j)) none none (by rw[hel];exact hu)
      rw[e1,e2]at h3
      simp only[Option.map_none,Option.map_some,e1,e2]
      rw[h3,hs2,hel,yf hs]
      rfl
     have hp:=ha.p_inv
     generalize hv:ρ x=v at hp hrun
     cases hp with
     | listNil _ _ hn=>
      have hn:l.length=0:=hn
      have:=hrun none 0 (by rw[hn])
      refine⟨_,this,.p _ _ ?_⟩
      have hm0:m=0:=by omega
      subst hm0
      rw[show sliced none 0 l.length 0 k=.slice none 0 0 by simp[sliced,hn]]
      exact .listNil _ _ (by show(l.drop _).length=0;simp[hn])
     | listZero _ _ a0 hn=>
      have hn:l.length=0:=hn
      have:=hrun (some a0) 0 (by rw[hn])
      refine⟨_,this,.p _ _ ?_⟩
      have hm0:m=0:=by omega
      subst hm0
      rw[show sliced (some a0) 0 l.length 0 k=.slice (some a0) 0 0 by simp[sliced,hn]]
      exact .listZero _ _ _ (by show(l.drop _).length=0;simp[hn])
     | list _ _ b off cap g hmx hc hM hR=>
      have:=hrun (some ⟨b,off,none⟩) cap rfl
      refine⟨_,this,.p _ _ ?_⟩
      have hlen:(Rows.dat a (l.drop m)).n=l.length-m:=by show(l.drop m).length=_;simp
      have hc':l.length<=cap:=hc
      have hmx':l.length<=maxLen:=hmx
      show zF M (.list k (.dat a (l.drop m))) _
      have key:∀ off',(cap=m\/off'=off+m*k)->zF M (.list k (.dat a (l.drop m))) (.slice (some ⟨b,off',none⟩) (l.length-m) (cap-m)):=by
       intro off' ho
       rw[<-hlen]
       refine .list k _ b off' (cap-m) (fun p q=>g (m+p) q) (by rw[hlen];omega) (by rw[hlen];omega) ?_ ?_
       .intro p q hp hq
        rw[hlen]at hp
        rcases ho with ho|rfl
        .omega
        .have:=hM (m+p) q (by show _<l.length;omega) hq
         rw[show off+m*k+p*k+q=off+(m+p)*k+q by rw[Nat.add_mul];omega]
         exact this
       .intro p q hp hq
        rw[hlen]at hp
        have:=hR (m+p) q (by show _<l.length;omega) hq
        have e3:(Rows.dat a (l.drop m)).f p q=(Rows.dat a l).f (m+p) q:=by
         show cell a ((l.drop m).getD p (dfl a)) q=cell a (l.getD (m+p) (dfl a)) q
         simp[List.getD_eq_getElem?_getD,List.getElem?_drop]
        rw[e3];exact this
      unfold sliced
      by_cases hcm:cap=m
      .rw [if_pos hcm];exact key _ (.inl hcm)
      .rw [if_neg hcm]
       simp only[Option.map_some,zC]
       exact key _ (.inr rfl)
 .cases h
theorem ARel.tup_inv{cs:List AV}{v:Value}(h:ARel γ M (.tup cs) v):∃ vs:Array Value,v=.tuple vs/\vs.size=cs.length/\∀ i,i<cs.length->ARel γ M (cs.getD i .any) (vs.getD i undef):=by
 cases h with|tup cs vs hs h=>exact⟨vs,rfl,hs,h⟩
theorem ARel.agg_inv{cs:List AV}{v:Value}(h:ARel γ M (.agg cs) v):∃ vs:Array Value,v=.agg vs/\vs.size=cs.length/\∀ i,i<cs.length->ARel γ M (cs.getD i .any) (vs.getD i undef):=by
 cases h with|agg cs vs hs h=>exact⟨vs,rfl,hs,h⟩
theorem zwh(o:Oper)(ρ:Operand->Value)(hl:Lits ρ){xs:List AV}{r:AV}{ok:Option Prop}(h:evP P o.op xs=some (r,ok))(hok:okP ok)
 (hx:ARels γ M xs (o.op.operands.toList.map ρ)) (w:World):∃ v,(execOp ρ o).run P w=.ok (.value v) w/\ARel γ M r v:=by
 obtain⟨dst,op,type,pos,after,guard⟩:=o
 dsimp only at hx h
 cases op <;> simp only[evP,reduceCtorEq]at h <;> simp only[Op.operands,List.map_cons,List.map_nil]at hx
 case move x=>
  unfold ev1 at h;split at h
  .cases h;cases hx with|cons h1 _=>exact⟨_,by simp[execOp],h1⟩
  .cases h
 case assign x=>
  unfold ev1 at h;split at h
  .cases h;cases hx with|cons h1 _=>exact⟨_,by simp[execOp],h1⟩
  .cases h
 case pick c x y=>
  unfold zzv at h
  split at h
  .cases hx with
   | cons hc hx=>cases hx with
    | cons ha hx=>cases hx with
     | cons hb _=>
      have hc:=hc.bool_inv
      have hrun:∀ cb,ρ c=.bool cb->(execOp ρ ⟨dst,.pick c x y,type,pos,after,guard⟩).run P w=.ok (.value (if cb then ρ x else ρ y)) w:=fun cb hcb=>by
       simp[execOp,hcb,asBool]
      split at h
      .rename_i hy
       have:=zdU hy
       subst this
       exact⟨_,hrun _ hc,zqZ h hok ha (hl _)⟩
      .split at h
       .rename_i hy
        have:=zdU hy
        subst this
        exact⟨_,hrun _ hc,zsU h hok hb (hl _)⟩
       .cases h
  .cases h
 case binOp op t x y yt=>
  cases hx with
  | cons ha hx=>cases hx with
   | cons hb hx=>cases hx with
    | nil=>
     obtain⟨v,hv,hrel⟩:=zqY (P:=P) h hok ha hb x y w
     exact⟨v,by simp only[execOp];rw[Sem.run_bind,hv];rfl,hrel⟩
 case unOp op t x=>
  unfold evUn at h
  split at h
  .cases hx with
   | cons ha _=>
    have e:=ha.bool_inv
    cases op <;> dsimp only at h <;> first
     | (cases h;done)
     | (cases h;exact⟨_,by simp[execOp,Op.unary,e],.p _ _ (.bool _)⟩)
  .cases hx with
   | cons ha _=>
    have e:=ha.int_inv.1
    cases op <;> dsimp only at h <;> first
     | (cases h;done)
     | (cases h;exact⟨_,by simp only[execOp,Op.unary,e,Op.intArith];rfl,.p _ _ (zga hok)⟩)
  .cases h
 case convert s d x=>
  unfold zzy at h
  split at h
  .cases hx with
   | cons ha _=>
    split at h
    .rename_i hk
     obtain⟨r',hab,hr⟩:=map_some h
     cases hr
     obtain⟨v,hv,hrel⟩:=zrw (P:=P) (M:=M) hab (zqy hk) ha.p_inv w
     exact⟨v,by simp[execOp,hv],.p _ _ hrel⟩
    .cases h
  .cases h
 case index t x i=>
  unfold zuN at h
  split at h
  .cases hx with
   | cons ha hx=>cases hx with
    | cons hb _=>
     obtain⟨ht,he⟩:=zp h
     cases he
     have e1:=ha.str_inv.1
     have e2:=hb.int_inv.1
     exact⟨_,by simp[execOp,e1,e2,zmj ht _ _ _ hok.1 hok.2],.p _ _ (.int _ _ (zsL _))⟩
  .cases h
 case slice t x lo hi mx=>
  cases mx with
  | some m=>cases h
  | none=>
   dsimp only at h
   have hx':ARels γ M xs (ρ x::((lo.toList++hi.toList).map ρ)):=by
    cases lo <;> cases hi <;> simpa using hx
   obtain⟨v,hv,hrel⟩:=zmt (P:=P) h hok hx' w
   exact⟨v,by simp[execOp,hv],hrel⟩
 case extract x i=>
  unfold znv at h
  split at h
  .cases hx with
   | cons ha _=>
    split at h
    .rename_i hb
     have hb:i<_:=Nat.le_of_ble_eq_true hb
     cases h
     obtain⟨vs,hv,hs,hr⟩:=ha.tup_inv
     obtain⟨u,hu1,hu2⟩:∃ u,vs[i]?=some u/\vs.getD i undef=u:=
      ⟨vs[i]'(by omega),Array.getElem?_eq_getElem (by omega),by rw[Array.getD_eq_getD_getElem?,Array.getElem?_eq_getElem (by omega)];rfl⟩
     exact⟨u,by simp[execOp,Instr.extract,hv,hu1],hu2 ▸ hr i hb⟩
    .cases h
  .cases h
 case field t x f=>
  unfold zuO at h
  split at h
  .cases hx with
   | cons ha _=>
    split at h
    .rename_i fd hfd
     obtain⟨r',hab,hr⟩:=map_some h
     cases hr
     obtain⟨fs,hu,hf⟩:=zhE hfd
     obtain⟨vs,hv,hs,hr⟩:=zfr ha
     obtain⟨v,hp,hrel⟩:=zfp (P:=P) hab hs hr w
     exact⟨v,by simp[execOp,Instr.field,run_underlying hu,hf,hv,asAgg,hp],hrel⟩
    .cases h
  .cases h
 case fieldAddr t x f=>
  unfold zjt at h
  split at h
  .cases hx with
   | cons ha _=>
    split at h
    .rename_i fd hfd
     split at h
     .rename_i n hn
      obtain⟨r',hab,hr⟩:=map_some h
      cases hr
      obtain⟨fs,hu,hf⟩:=zhE hfd
      obtain⟨b,off,hv,hrel⟩:=zjM hab ha
      exact⟨_,by simp[execOp,Instr.fieldAt,run_underlying hu,hf,hv,Instr.sureAddr,fieldPlace,yf hn,zC],hrel⟩
     .cases h
    .cases h
  .cases h
 case indexAddr t x i=>
  unfold zjs at h
  split at h
  .rename_i k R kk j
   cases hx with
   | cons ha hx=>cases hx with
    | cons hb _=>
     split at h
     .rename_i k' hk'
      obtain⟨hbq,he⟩:=zp h
      cases he
      have hkk:=Nat.eq_of_beq_eq_true hbq
      subst hkk
      have e2:=hb.int_inv.1
      generalize hv:ρ x=vx at ha
      cases ha.p_inv with
      | listNil k R h0=>exact absurd hok (by omega)
      | listZero k R _ h0=>exact absurd hok (by omega)
      | list k R b off cap g hm hc hM hf=>
       exact⟨.pointer (some ⟨b,off+j.toNat*k,none⟩),by simp[execOp,hv,e2,yT hk' _ _ _ _ _ _ hok.1 hok.2],
        .p _ _ (.box _ _ _ _ (fun q=>g _ q) (fun q hq=>hM _ q (by omega) hq) (fun q hq=>hf _ q (by omega) hq))⟩
     .cases h
  .rename_i l kk j
   cases hx with
   | cons ha hx=>cases hx with
    | cons hb _=>
     split at h
     .rename_i k' hk'
      obtain⟨hbq,he⟩:=zp h
      cases he
      have hkk:=Nat.eq_of_beq_eq_true hbq
      subst hkk
      have e2:=hb.int_inv.1
      rcases zf8 ha.p_inv with⟨rfl,_⟩|⟨b,off,cap,hv,hm,hc,hM⟩
      .exact (by have:=hok;simp only[List.length_nil]at this;omega:False).elim
      .have hlt:j.toNat<l.length:=by omega
       refine⟨.pointer (some ⟨b,off+j.toNat*1,none⟩),by simp only[execOp,hv,e2,Sem.run_bind,yT hk' _ _ _ _ _ _ hok.1 hok.2];rfl,
        .p _ _ (.box _ _ _ _ (fun _=>zq (l.getD j.toNat 0)) (fun q hq=>?_) (fun q hq=>.int _ _ (zsL _)))⟩
       have hj0:q=0:=by omega
       subst hj0
       have:=hM _ _ (List.getElem?_eq_getElem hlt)
       simp only[Nat.mul_one,Nat.add_zero]
       rw[this,List.getD_eq_getElem?_getD,List.getElem?_eq_getElem hlt]
       rfl
     .cases h
  .cases h
 case makeFunc fn a b=>
  cases h
  have hx':ARels γ M xs ((a.toList++b.toList).map ρ):=by simpa using hx
  have h1:=hx'.take a.size
  have h2:=hx'.drop a.size
  have e1:((a.toList++b.toList).map ρ).take a.size=a.toList.map ρ:=by rw[List.map_append,List.take_left'];simp
  have e2:((a.toList++b.toList).map ρ).drop a.size=b.toList.map ρ:=by rw[List.map_append,List.drop_left'];simp
  rw[e1]at h1
  rw[e2]at h2
  refine⟨.func fn (a.map ρ) (b.map ρ),by simp[execOp,Instr.makeFunc],.clo _ _ _ _ _ ?_ ?_ ?_ ?_⟩
  .have:=h1.length;simpa using this
  .have:=h2.length;simpa using this
  .intro i hi
   have:=h1.get i hi
   simpa[Array.getD_eq_getD_getElem?,List.getD_eq_getElem?_getD]using this
  .intro i hi
   have:=h2.get i hi
   simpa[Array.getD_eq_getD_getElem?,List.getD_eq_getElem?_getD]using this
 case nilCheck x=>
  unfold zlD at h
  split at h
  .cases h
   cases hx with
   | cons ha _=>
    generalize hv:ρ x=v at ha
    cases ha with
    | ref id off b hb=>exact⟨_,by simp[execOp,hv],.ref _ _ _ hb⟩
  .cases h
   cases hx with
   | cons ha _=>
    generalize hv:ρ x=v at ha
    cases ha.p_inv with
    | box n f b off g hM hf=>exact⟨_,by simp[execOp,hv],.p _ _ (.box _ _ _ _ _ hM hf)⟩
  .cases h
 case call c=>
  obtain⟨callee,args,ts⟩:=c
  cases callee with
  | value f=>cases h
  | invoke r m=>cases h
  | builtin b=>
   dsimp only[zuP]at h
   have hx':ARels γ M xs (args.toList.map ρ):=by simpa[Call.operands]using hx
   have hrun:∀ v,(builtin b ts type (args.map fun|.const _=>true|_=>false) (args.map ρ)).run P w=.ok (.value v) w->
    (execOp ρ ⟨dst,.call ⟨.builtin b,args,ts⟩,type,pos,after,guard⟩).run P w=.ok (.value v) w:=fun v hv=>by
    simp only[execOp,resolve,Sem.run_bind,Sem.run_pure,Result.andThen_ok,invoke]
    exact hv
   unfold znw at h
   cases args with
   | mk al=>
   dsimp only at hx'
   cases b <;> dsimp only at h <;> first|(cases h;done)|skip
   case len=>
    cases hts:ts[0]? with
    | none=>rw[hts]at h;cases h
    | some t=>
     rw[hts]at h
     dsimp only at h
     generalize hvs:al.map ρ=vs at hx'
     have hal:(List.toArray al).map ρ=vs.toArray:=by rw[<-hvs];simp
     rw[hal]at hrun
     clear hvs hal
     cases hx' with
     | nil=>cases h
     | cons ha ht=>
      cases ht with
      | cons _ _=>simp[zDv]at h
      | nil=>
       rename_i u a
       cases u with
       | p y=>
        cases y with
        | str l=>
         obtain⟨hk,he⟩:=zp h;cases he
         obtain⟨e1,hm⟩:=ha.str_inv
         have hsz:(⟨l.toArray⟩:ByteArray).size=l.length:=rfl
         exact⟨.int .i64 (l.length:Int),hrun _ (by simp only[builtin,Builtin.len_,List.getElem?_toArray,List.getElem?_cons_zero,hts,e1,Sem.run_bind,run_underlying (zbz hk),Result.andThen_ok,goInt,hsz];rfl),.p _ _ (.int _ _ (yH hm))⟩
        | bytes l=>
         obtain⟨hk,he⟩:=zp h;cases he
         obtain⟨e,hu⟩:=yn hk
         rcases zf8 ha.p_inv with⟨rfl,rfl⟩|⟨b,off,cap,rfl,hm,_,_⟩
         .exact ⟨_,hrun _ (by simp[builtin,Builtin.len_,hts,run_underlying hu,goInt]),.p _ _ (.int _ _ (yH (n:=0) (by simp[maxLen])))⟩
         .exact ⟨_,hrun _ (by simp[builtin,Builtin.len_,hts,run_underlying hu,goInt]),.p _ _ (.int _ _ (yH hm))⟩
        | list k R=>
         obtain⟨hk,he⟩:=zp h;cases he
         obtain⟨e,hu⟩:=yn hk
         cases ha.p_inv with
         | listNil k R h0=>rw[h0];exact⟨_,hrun _ (by simp[builtin,Builtin.len_,hts,run_underlying hu,goInt]),.p _ _ (.int _ _ (yH (n:=0) (by simp[maxLen])))⟩
         | listZero k R _ h0=>rw[h0];exact⟨_,hrun _ (by simp[builtin,Builtin.len_,hts,run_underlying hu,goInt]),.p _ _ (.int _ _ (yH (n:=0) (by simp[maxLen])))⟩
         | list k R b off cap g hm hc hM hf=>exact⟨_,hrun _ (by simp[builtin,Builtin.len_,hts,run_underlying hu,goInt]),.p _ _ (.int _ _ (yH hm))⟩
        | nil=>
         obtain⟨hk,he⟩:=zp h;cases he
         obtain⟨e,hu⟩:=yn hk
         cases ha.p_inv
         exact⟨_,hrun _ (by simp[builtin,Builtin.len_,hts,run_underlying hu,goInt]),.p _ _ (.int _ _ (yH (n:=0) (by simp[maxLen])))⟩
        | _=>cases h
       | _=>cases h
   case min=>
    generalize hvs:al.map ρ=vs at hx'
    have hal:(List.toArray al).map ρ=vs.toArray:=by rw[<-hvs];simp
    rw[hal]at hrun
    clear hvs hal
    cases hx' with
    | nil=>cases h
    | cons ha ht=>
     unfold zDt at h
     split at h
     .rename_i heq
      cases heq
      obtain⟨n,hn,he⟩:=map_some h
      cases he
      obtain⟨e1,hm⟩:=ha.int_inv
      obtain⟨h1,h2⟩:=zmp (P:=P) _ _ _ _ hn ht hm w
      exact⟨_,hrun _ (by simp only[builtin,Builtin.min_,e1,Sem.run_bind];rw[h1];rfl),.p _ _ (.int _ _ h2)⟩
     .cases h
   case max=>
    generalize hvs:al.map ρ=vs at hx'
    have hal:(List.toArray al).map ρ=vs.toArray:=by rw[<-hvs];simp
    rw[hal]at hrun
    clear hvs hal
    cases hx' with
    | nil=>cases h
    | cons ha ht=>
     unfold zDu at h
     split at h
     .rename_i heq
      cases heq
      obtain⟨n,hn,he⟩:=map_some h
      cases he
      obtain⟨e1,hm⟩:=ha.int_inv
      obtain⟨h1,h2⟩:=zmq (P:=P) _ _ _ _ hn ht hm w
      exact⟨_,hrun _ (by simp only[builtin,Builtin.max_,e1,Sem.run_bind];rw[h1];rfl),.p _ _ (.int _ _ h2)⟩
     .cases h
end Go.Am
/-! Operations that touch memory. -/
namespace Go.Am
open Go Go.RowKit
variable {P:Program}{γ γ':Nat->Option G}{M M':Mem}{C:Ctx}{s s':S}{a a':Act}{w w':World}
theorem OM.keep{id:Nat}{o:AObj}(h:OM γ M w id o)(hγ:GLe γ γ')(hM:MLe M M')
 (hb:∀ g b,γ id=some g->g.blk=some b->w'.heap[b]?=w.heap[b]?/\M' b=M b):OM γ' M' w' id o:=by
 have arr:∀ {e mu k n vs a cap},γ id=some (.arr a k n cap)->zcq M w e mu k n vs a cap->zcq M' w' e mu k n vs a cap:=by
  intro e mu k n vs a cap hg hA
  refine⟨?_,hA.one,hA.len,?_⟩
  .obtain ⟨h1,h2⟩:=hA.own
   refine⟨h1,?_⟩
   rcases h2 with h2|⟨g,cap',cur,hv,hge,hh,rest⟩
   .exact .inl h2
   .refine .inr ⟨g,cap',cur,hv,hge,?_,rest⟩
    cases a with
    | none=>cases hv
    | some a => have e : a = g := by simp only [yP, Option.map_some, Value.slice.injEq, Option.some.injEq, Addr.mk.injEq] at hv; exact hv.1.1
                subst e;rw[(hb _ a hg rfl).1];exact hh
  .intro g hg'
   subst hg'
   rw[(hb _ g hg rfl).2]
   exact hA.mem g rfl
 cases o with
 | cells cs=>
  obtain⟨b,vs,e,hg,hh,hs,hc,hm⟩:=h
  have:=hb _ b hg rfl
  exact⟨b,vs,e,hγ _ _ hg,by rw[this.1];exact hh,hs,fun j hj=>⟨(hc j hj).1.mono hγ hM,(hc j hj).2⟩,by rw[this.2];exact hm⟩
 | barr e mu l=>
  obtain⟨a,cap,hg,hA⟩:=h
  exact⟨a,cap,hγ _ _ hg,arr hg hA⟩
 | larr e mu k R=>
  obtain⟨a,cap,vs,hg,hr,hA⟩:=h
  exact⟨a,cap,vs,hγ _ _ hg,fun i j hi hj=>let ⟨v,hv,hp⟩:=hr i j hi hj;⟨v,hv,hp.mono hM⟩,arr hg hA⟩
 | bcv e l=>
  obtain⟨g,cur,hg,hh,ht,hc,hl,hm⟩:=h
  have:=hb _ g hg rfl
  exact⟨g,cur,hγ _ _ hg,by rw[this.1];exact hh,ht,hc,hl,by rw[this.2];exact hm⟩
 | bldr T a=>
  obtain⟨b,v0,v1,hg,hh,h0,h1,h2,hm⟩:=h
  have:=hb _ b hg rfl
  exact⟨b,v0,v1,hγ _ _ hg,by rw[this.1];exact hh,h0,h1.mono hγ hM,h2,by rw[this.2];exact hm⟩
 | raw o=>
  obtain⟨b,hg,hh,hm⟩:=h
  have:=hb _ b hg rfl
  exact⟨b,hγ _ _ hg,by rw[this.1];exact hh,by rw[this.2];exact hm⟩
 | mp e l=>
  obtain⟨b,es,cl,hg,hh,hr,hm⟩:=h
  have:=hb _ b hg rfl
  exact⟨b,es,cl,hγ _ _ hg,by rw[this.1];exact hh,hr.mono hM,by rw[this.2];exact hm⟩
theorem OM.ghost{id:Nat}{o:AObj}(h:OM γ M w id o):∃ g,γ id=some g:=by
 cases o with
 | cells cs=>obtain⟨b,vs,e,hg,_⟩:=h;exact⟨_,hg⟩
 | barr e mu l=>obtain⟨a,cap,hg,_⟩:=h;exact⟨_,hg⟩
 | larr e mu k R=>obtain⟨a,cap,vs,hg,_⟩:=h;exact⟨_,hg⟩
 | bcv e l=>obtain⟨g,cur,hg,_⟩:=h;exact⟨_,hg⟩
 | bldr T a=>obtain⟨b,v0,v1,hg,_⟩:=h;exact⟨_,hg⟩
 | raw o=>obtain⟨b,hg,_⟩:=h;exact⟨_,hg⟩
 | mp e l=>obtain⟨b,es,cl,hg,_⟩:=h;exact⟨_,hg⟩
theorem StG.master(h:StG C γ M s a w)(hγ:GLe γ γ')(hM:MLe M M')
 (hsl:∀ t,ARel γ' M' (s'.sl t) (a'.tmps.getD t undef)) (hnt:a'.tmps.size=C.nt) (hdf:a'.defers=C.dl)
 (tgt:Nat) (hob:∀ i,i≠tgt->s'.ob i=none\/s'.ob i=s.ob i)
 (hγne:∀ i,i≠tgt->γ' i=γ i)
 (hus:∀ i,s'.us i=false->s.us i=false/\i≠tgt)
 (htgt:∀ o,s'.ob tgt=some o->OM γ' M' w' tgt o)
 (hkeep:∀ i g b,i≠tgt->s'.ob i≠none->γ i=some g->g.blk=some b->w'.heap[b]?=w.heap[b]?/\M' b=M b)
 (hsep:∀ i g g' b,i≠tgt->s'.ob i≠none->s'.ob tgt≠none->γ i=some g->γ' tgt=some g'->g.blk=some b->g'.blk=some b->False)
 (hlo:∀ g b,s'.ob tgt≠none->γ' tgt=some g->g.blk=some b->(C.w0.heap.size<=b\/C.own b)/\b<w'.heap.size)
 (hsz:w.heap.size<=w'.heap.size)
 (hmem:MOk M' w') (hnew:∀ b,b<C.w0.heap.size->¬ C.own b->M' b=M b)
 (hfr:Fr C w'):StG C γ' M' s' a' w':=by
 have old:∀ i,i≠tgt->s'.ob i≠none->s'.ob i=s.ob i:=fun i hi hn=>(hob i hi).resolve_left hn
 refine⟨hsl,?_,?_,?_,?_,hmem,h.le.trans hM,fun b hb ho=>(hnew b hb ho).trans (h.new b hb ho),hfr,hdf,hnt,h.gl.trans hγ⟩
 .intro i o hi
  by_cases ht:i=tgt
  .subst ht;exact htgt o hi
  .have hn:s'.ob i≠none:=by rw[hi];simp
   have e:=old i ht hn
   exact(h.ob i o (e ▸ hi)).keep hγ hM fun g b hg hb=>hkeep i g b ht hn hg hb
 .intro i hi
  obtain⟨h1,h2⟩:=hus i hi
  rw[hγne i h2];exact h.us i h1
 .intro i i' g g' b hi hi' hg hg' hb hb'
  by_cases ht:i=tgt
  .by_cases ht':i'=tgt
   .rw [ht,ht']
   .subst ht
    rw[hγne i' ht']at hg'
    exact(hsep i' g' g b ht' hi' hi hg' hg hb' hb).elim
  .by_cases ht':i'=tgt
   .subst ht'
    rw[hγne i ht]at hg
    exact(hsep i g g' b ht hi hi' hg hg' hb hb').elim
   .rw [hγne i ht]at hg
    rw[hγne i' ht']at hg'
    exact h.sep i i' g g' b (old i ht hi ▸ hi) (old i' ht' hi' ▸ hi') hg hg' hb hb'
 .intro i g b hi hg hb
  by_cases ht:i=tgt
  .subst ht;exact hlo g b hi hg hb
  .rw [hγne i ht]at hg
   have:=h.lo i g b (old i ht hi ▸ hi) hg hb
   exact⟨this.1,by omega⟩
def zX(σ:Nat->AV)(dst:Option Nat)(v:AV):Nat->AV:=
 match dst with
 | some d=>upd σ d v
 | none=>σ
def zcu(s:S)(dst:Option Nat)(v:AV):S:={ s with sl:=zX s.sl dst v }
def yu(nt:Nat)(dst:Option Nat):Bool:=
 match dst with
 | some d=>Nat.blt d nt
 | none=>true
theorem za2{dst:Option Nat}(hd:yu a.tmps.size dst=true){σ:Nat->AV}(h:∀ t,ARel γ M (σ t) (a.tmps.getD t undef)){r:AV}{v:Value}(hr:ARel γ M r v):
 ∀ t,ARel γ M (zX σ dst r t) ((a.put dst v).tmps.getD t undef):=by
 intro t
 cases dst with
 | none=>exact h t
 | some d=>
  have hd:d<a.tmps.size:=Nat.le_of_ble_eq_true hd
  by_cases ht:t=d
  .subst ht
   have e:(a.put (some t) v).tmps.getD t undef=v:=by
    simp[Act.put,Array.getD_eq_getD_getElem?,hd]
   rw[e];dsimp only[zX];rw[zc];exact hr
  .have e:(a.put (some d) v).tmps.getD t undef=a.tmps.getD t undef:=by
    simp only[Act.put,Array.getD_eq_getD_getElem?]
    rw[Array.getElem?_setIfInBounds_ne (fun e=>ht e.symm)]
   rw[e];dsimp only[zX];rw[zh _ _ ht];exact h t
theorem zae(a:Act)(dst:Option Nat)(v:Value):(a.put dst v).tmps.size=a.tmps.size:=by
 cases dst <;> simp[Act.put]
theorem yB(a:Act)(dst:Option Nat)(v:Value):(a.put dst v).defers=a.defers:=by
 cases dst <;> rfl
theorem StG.put(h:StG C γ M s a w){dst:Option Nat}(hd:yu C.nt dst=true)(hM:MLe M M')(hsz:w.heap.size<=w'.heap.size)
 (hold:∀ b,b<w.heap.size->w'.heap[b]?=w.heap[b]?/\M' b=M b) (hmem:MOk M' w')
 (hos:w'.os=w.os) (htape:w'.tape=w.tape) (hout:w'.output=w.output)
 {r:AV} {v:Value} (hr:ARel γ M' r v):StG C γ M' (zcu s dst r) (a.put dst v) w':=by
 have hsl:=za2 (dst:=dst) (by rw[h.nt];exact hd) (fun t=>(h.sl t).mono (GLe.refl γ) hM) hr
 have e1:(zcu s dst r).ob=s.ob:=rfl
 have e2:(zcu s dst r).us=s.us:=rfl
 refine⟨hsl,?_,by rw[e2];exact h.us,by rw[e1];exact h.sep,?_,hmem,h.le.trans hM,?_,?_,by rw[yB];exact h.df,by rw[zae];exact h.nt,h.gl⟩
 .intro id o ho
  rw[e1]at ho
  refine(h.ob id o ho).keep (GLe.refl γ) hM fun g b hg hb=>?_
  have:=h.lo id g b (by rw[ho];simp) hg hb
  exact hold b this.2
 .intro id g b ho hg hb
  rw[e1]at ho
  have:=h.lo id g b ho hg hb
  exact⟨this.1,by omega⟩
 .intro b hb ho
  have:=h.fr.size
  rw[(hold b (by omega)).2];exact h.new b hb ho
 .have:=h.fr
  exact⟨hos.trans this.os,htape.trans this.tape,hout.trans this.output,Nat.le_trans this.size hsz,fun b hb ho=>(hold b (by have:=this.size;omega)).1.trans (this.block b hb ho),this.tab⟩
theorem StG.birth(h:StG C γ M s a w){d:Nat}(hd:yu C.nt (some d)=true)(hu:s.us d=false)(hM:MLe M M')(hsz:w.heap.size<=w'.heap.size)
 (hold:∀ b,b<w.heap.size->w'.heap[b]?=w.heap[b]?/\M' b=M b) (hmem:MOk M' w')
 (hos:w'.os=w.os) (htape:w'.tape=w.tape) (hout:w'.output=w.output)
 {g:G} (hg:∀ b,g.blk=some b->w.heap.size<=b/\b<w'.heap.size) {o:AObj} (ho:OM (upd γ d (some g)) M' w' d o)
 {r:AV} {v:Value} (hr:ARel (upd γ d (some g)) M' r v):
 StG C (upd γ d (some g)) M' { sl:=upd s.sl d r,ob:=upd s.ob d (some o),us:=upd s.us d true } (a.put (some d) v) w':=by
 have hγ:GLe γ (upd γ d (some g)):=by
  intro i g' hi
  by_cases e:i=d
  .subst e;rw[h.us i hu]at hi;cases hi
  .rw [zh _ _ e];exact hi
 have hne:∀ i,i≠d->s.ob i≠none->∀ g b,γ i=some g->g.blk=some b->b<w.heap.size:=fun i _ ho g b hg hb=>(h.lo i g b ho hg hb).2
 refine h.master (s':={ sl:=upd s.sl d r,ob:=upd s.ob d (some o),us:=upd s.us d true }) hγ hM
  (za2 (dst:=some d) (by rw[h.nt];exact hd) (fun t=>(h.sl t).mono hγ hM) hr) (by rw[zae];exact h.nt) (by rw[yB];exact h.df) d
  (fun i hi=>.inr (zh _ _ hi)) (fun i hi=>zh _ _ hi) ?_ ?_ ?_ ?_ ?_ hsz hmem ?_ ?_
 .intro i hi
  dsimp only at hi
  by_cases e:i=d
  .subst e;rw[zc]at hi;cases hi
  .rw [zh _ _ e]at hi;exact⟨hi,e⟩
 .intro o' ho'
  dsimp only at ho'
  rw[zc]at ho';cases ho';exact ho
 .intro i g' b hi hob hgi hb
  dsimp only at hob
  rw[zh _ _ hi]at hob
  exact hold b (hne i hi hob g' b hgi hb)
 .intro i g1 g2 b hi hob _ hg1 hg2 hb1 hb2
  dsimp only at hob
  rw[zh _ _ hi]at hob
  rw[zc]at hg2;cases hg2
  have:=hne i hi hob g1 b hg1 hb1
  have:=(hg b hb2).1
  omega
 .intro g' b _ hg' hb
  rw[zc]at hg';cases hg'
  have:=hg b hb
  have:=h.fr.size
  exact⟨.inl (by omega),by omega⟩
 .intro b hb _
  have:=h.fr.size
  exact(hold b (by omega)).2
 .have:=h.fr
  exact⟨hos.trans this.os,htape.trans this.tape,hout.trans this.output,Nat.le_trans this.size hsz,fun b hb ho=>(hold b (by have:=this.size;omega)).1.trans (this.block b hb ho),this.tab⟩
end Go.Am
/-! Operations that read memory. -/
namespace Go.Am
open Go Go.RowKit
variable {P:Program}{γ γ':Nat->Option G}{M M':Mem}{C:Ctx}{s s':S}{a a':Act}{w w':World}
def zjD(P:Program)(t:TypeId)(n:Nat)(x:Nat->AV):Option AV:=
 match ziC P t,zax P t with
 | some true,some m=>match Nat.ble m n with
  | true=>some (.agg ((List.range m).map x))
  | false=>none
 | some false,some _=>match Nat.blt 0 n with
  | true=>some (x 0)
  | false=>none
 | _,_=>none
theorem zbC{t:TypeId}{n:Nat}{x:Nat->AV}{r:AV}(h:zjD P t n x=some r){b off:Nat}{g:Nat->Value}
 (hc:∀ j,j<n->w.cell? ⟨b,off+j,none⟩=some (g j)) (hx:∀ j,j<n->ARel γ M (x j) (g j)):
 ∃ v,(loadVar t ⟨b,off,none⟩).run P w=.ok v w/\ARel γ M r v:=by
 unfold zjD at h
 cases ha:ziC P t with
 | none=>rw[ha]at h;cases h
 | some bb=>
  cases hz:zax P t with
  | none=>rw[ha,hz]at h;cases bb <;> cases h
  | some m=>
   rw[ha,hz]at h
   cases bb with
   | true=>
    dsimp only at h
    split at h
    .rename_i hb
     have hb:=Nat.le_of_ble_eq_true hb
     cases h
     have hl:=run_loadCells (P:=P) w ⟨b,off,none⟩ m g (fun j hj=>by rw[zC];exact hc j (by omega))
     refine⟨.agg ((List.range m).map g).toArray,by simp[loadVar,zfG ha,yf hz,hl],.agg _ _ (by simp) ?_⟩
     intro i hi
     have hi':i<m:=by simpa using hi
     have:=hx i (by omega)
     simpa[List.getD_eq_getElem?_getD,Array.getD_eq_getD_getElem?,hi']using this
    .cases h
   | false=>
    dsimp only at h
    split at h
    .rename_i hb
     have hb:0<n:=Nat.le_of_ble_eq_true hb
     cases h
     have:=hc 0 hb
     rw[Nat.add_zero]at this
     exact⟨g 0,by simp only[loadVar,Sem.run_bind,zfG ha,Result.andThen_ok];simp[run_load,this],hx 0 hb⟩
    .cases h
def zct(P:Program)(ob:Nat->Option AObj)(t:TypeId):List AV->Option (AV×Option Prop)
 | [.ref id off]=>match ob id with
  | some (.cells cs)=>(zjD P t (cs.length-off) (fun j=>cs.getD (off+j) .any)).map fun r=>(r,none)
  | some (.bldr _ x)=>match off with
   | 1=>(zjD P t 1 (fun _=>x)).map fun r=>(r,none)
   | _=>none
  | _=>none
 | [.p (.box n f)]=>(zjD P t n (fun j=>.p (f j))).map fun r=>(r,none)
 | [.aptr id i j]=>match ob id with
  | some (.barr _ _ l)=>match j with
   | 0=>(zjD P t 1 (fun _=>.p (.int .u8 ((l.getD i 0).toNat:Int)))).map fun r=>(r,some (i<l.length))
   | _=>none
  | some (.bcv _ l)=>match j with
   | 0=>(zjD P t 1 (fun _=>.p (.int .u8 ((l.getD i 0).toNat:Int)))).map fun r=>(r,some (i<l.length))
   | _=>none
  | some (.larr _ _ k R)=>(zjD P t (k-j) (fun q=>.p (R.f i (j+q)))).map fun r=>(r,some (i<R.n))
  | _=>none
 | _=>none
def ziL(P:Program)(ob:Nat->Option AObj)(t:TypeId):List AV->Option (AV×Option Prop)
 | [.arr id]=>match ob id with
  | some (.barr _ _ l)=>yI (yr P t) (.p (.int .i64 (l.length:Int)),none)
  | some (.larr _ _ _ R)=>yI (yr P t) (.p (.int .i64 (R.n:Int)),none)
  | some (.bcv _ l)=>yI (yr P t) (.p (.int .i64 (l.length:Int)),none)
  | _=>none
 | _=>none
def yW(P:Program)(ob:Nat->Option AObj)(t:TypeId):List AV->Option (AV×Option Prop)
 | [.arr id,.p (.int _ i)]=>match ob id,zaS P t with
  | some (.barr _ _ l),some k=>yI (Nat.beq 1 k) (.aptr id i.toNat 0,some (0<=i/\i<(l.length:Int)))
  | some (.bcv _ l),some k=>yI (Nat.beq 1 k) (.aptr id i.toNat 0,some (0<=i/\i<(l.length:Int)))
  | some (.larr _ _ k' R),some k=>yI (Nat.beq k' k) (.aptr id i.toNat 0,some (0<=i/\i<(R.n:Int)))
  | _,_=>none
 | _=>none
def zau(P:Program)(t:TypeId):Bool:=
 match zcS P t with
 | some e=>match P.underlying e with|some (.int .u8)=>true|_=>false
 | none=>false
def zhF(P:Program)(ob:Nat->Option AObj)(s d:TypeId):List AV->Option (AV×Option Prop)
 | [.arr id]=>match ob id with
  | some (.barr _ _ l)=>yI (zau P s&&zaP P d) (.p (.str l),none)
  | some (.bcv _ l)=>yI (zau P s&&zaP P d) (.p (.str l),none)
  | _=>none
 | [.p (.bytes l)]=>yI (zau P s&&zaP P d) (.p (.str l),none)
 | [.p .nil]=>yI (zau P s&&zaP P d) (.p (.str []),none)
 | _=>none
def zeY{e:Ec}:List (Int×Elt e)->Int->Elt e
 | [],_=>dfl e
 | p::r,k=>match k==p.1 with|true=>p.2|false=>zeY r k
def zgo{e:Ec}(l:List (Int×Elt e))(k:Int):Bool:=l.any fun p=>k==p.1
def zvZ:IntKind->Bool|.i64=>true|_=>false
def zsx(P:Program)(t:TypeId):Option (TypeId×Ec):=match P.underlying t with
 | some (.map K E)=>match P.underlying K with
  | some (.int _)=>match P.info? E with
   | some i=>match i.zero with
    | some (.int q n)=>match zvZ q,n==0 with
     | true,true=>some (E,.int .i64)
     | _,_=>none
    | some (.bool false)=>some (E,.bool)
    | _=>none
   | none=>none
  | _=>none
 | _=>none
def zr9:Ec->Ec->Bool
 | .int .i64,.int .i64=>true
 | .bool,.bool=>true
 | _,_=>false
theorem zm0{a b:Ec}(h:zr9 a b=true):a=b:=by
 unfold zr9 at h
 split at h
 .rfl
 .rfl
 .cases h
theorem znc{t E:TypeId}{e:Ec}(h:zsx P t=some (E,e)):∃ K q i z,P.underlying t=some (.map K E)/\P.underlying K=some (.int q)/\P.info? E=some i/\i.zero=some z/\∀ M,zF M (cell e (dfl e) 0) z:=by
 unfold zsx at h
 split at h
 .rename_i K E' hu
  split at h
  .rename_i q hk
   split at h
   .rename_i i hi
    split at h
    .rename_i q' n hz
     split at h
     .rename_i hq hn
      cases h
      have hn:n=0:=by simpa using hn
      have hq : q' = .i64 := by unfold zvZ at hq; split at hq; · rfl
                                .cases hq
      subst hn;subst hq
      exact⟨K,q,i,_,hu,hk,hi,hz,fun M=>.int _ _ (by show IntKind.i64.has (0:Int);simp[IntKind.has,IntKind.min,IntKind.max,IntKind.signed,IntKind.bits])⟩
     .cases h
    .rename_i hz
     cases h
     exact⟨K,q,i,_,hu,hk,hi,hz,fun M=>.bool false⟩
    .cases h
   .cases h
  .cases h
 .cases h
def zfc(P:Program)(ob:Nat->Option AObj)(t:TypeId)(ck:Bool):List AV->Option (AV×Option Prop)
 | [.mref id,.p (.int .i64 k)]=>match ob id,zsx P t with
  | some (.mp e l),some (_,e')=>match zr9 e e',ck with
   | true,true=>some (.tup [.p (cell e (zeY l k) 0),.p (.bool (zgo l k))],none)
   | true,false=>some (.p (cell e (zeY l k) 0),none)
   | false,_=>none
  | _,_=>none
 | _=>none
theorem zgO{q:IntKind}{k:Int}{e:Ec}:∀ {l:List (Int×Elt e)} {es:List MapEntry} {i:Nat},zak M e es l->
 (zgo l k=false/\zeY l k=dfl e/\Instr.findNow (.int q) (.int .i64 k) es i=some none)\/(zgo l k=true/\∃ j v,Instr.findNow (.int q) (.int .i64 k) es i=some (some (j,v))/\zF M (cell e (zeY l k) 0) v)
 | [],[],i,_=>.inl ⟨rfl,rfl,rfl⟩
 | y::l,x::es,i,h=>by
  obtain⟨h1,h2,h3⟩:=h
  cases hk:k==y.1 with
  | true=>
   refine .inr ⟨by simp[zgo,hk],i,x.val,?_,?_⟩
   .simp [Instr.findNow,h1,Instr.sameNow,hk]
   .have e1:zeY (y::l) k=y.2:=by simp only[zeY,hk]
    rw[e1];exact h2
  | false=>
   have e1:zeY (y::l) k=zeY l k:=by simp only[zeY,hk]
   have e2:zgo (y::l) k=zgo l k:=by simp[zgo,hk]
   have e3:Instr.findNow (.int q) (.int .i64 k) (x::es) i=Instr.findNow (.int q) (.int .i64 k) es (i+1):=by simp[Instr.findNow,h1,Instr.sameNow,hk]
   rw[e1,e2,e3]
   exact zgO h3
theorem zcr{K:TypeId}{q:IntKind}(hk:P.underlying K=some (.int q))(b:Bool)(k:Int)(w:World)(n:Nat):(Instr.checkKey b (n+1) K (.int .i64 k)).run P w=.ok () w:=by
 simp only[Instr.checkKey,Sem.run_bind,run_underlying hk,Result.andThen_ok,Sem.run_pure]
theorem zcU{K:TypeId}{q:IntKind}(hk:P.underlying K=some (.int q)){v:Value}{es:List MapEntry}{r:Option (Nat×Value)}(h:Instr.findNow (.int q) v es 0=some r)(w:World):(Instr.findKey K v es).run P w=.ok r w:=by
 simp only[Instr.findKey,Sem.run_bind,run_underlying hk,Result.andThen_ok,h,Sem.run_pure]
theorem zbp{b:Nat}{es:Array MapEntry}{c:Nat}(h:w.heap[b]?=some (.map es c)):(getObj b).run P w=.ok (.map es c) w:=by
 simp[getObj,Sem.run,h]
theorem zlF(hs:StG C γ M s a w){t:TypeId}{ck:Bool}{x y:AV}{r:AV}{ok:Option Prop}(h:zfc P s.ob t ck [x,y]=some (r,ok)){u v:Value}(hx:ARel γ M x u)(hy:ARel γ M y v):
 ∃ z,(Instr.lookup t u v ck).run P w=.ok z w/\ARel γ M r z:=by
 unfold zfc at h
 split at h
 .rename_i id k heq
  cases heq
  split at h
  .rename_i e l E e' ho hT
   obtain⟨K,q,i,zv,hu,hk,hi,hz,hzr⟩:=znc hT
   cases hx with|mref _ b hg=>
   cases hy.p_inv
   obtain⟨b',es,cl,hg',hh,hr,hm⟩:=hs.ob id _ ho
   rw[hg]at hg';cases hg'
   have hzero:(zeroValue E).run P w=.ok zv w:=by simp[zeroValue,typeInfo,hi,hz]
   have hrun:∃ zz,(Instr.lookup t (.map (some b)) (.int .i64 k) ck).run P w=.ok (if ck then .tuple #[zz,.bool (zgo l k)] else zz) w/\(e=e'->zF M (cell e (zeY l k) 0) zz):=by
    rcases zgO (q:=q) (k:=k) (i:=0) hr with⟨g1,g2,g3⟩|⟨g1,j,vv,g3,g4⟩
    .refine ⟨zv,?_,fun he=>by rw[g2];subst he;exact hzr M⟩
     simp only[Instr.lookup,Sem.run_bind,run_underlying hu,Result.andThen_ok,zbp hh,Sem.run_pure,show ∀ b,(Instr.checkKey b 10000 K (.int .i64 k)).run P w=.ok () w from fun b=>zcr hk b k w 9999,zcU hk g3,hzero,g1]
    .refine ⟨vv,?_,fun _=>g4⟩
     simp only[Instr.lookup,Sem.run_bind,run_underlying hu,Result.andThen_ok,zbp hh,Sem.run_pure,show ∀ b,(Instr.checkKey b 10000 K (.int .i64 k)).run P w=.ok () w from fun b=>zcr hk b k w 9999,zcU hk g3,g1]
   obtain⟨zz,h1,h2⟩:=hrun
   split at h
   .rename_i hse
    cases h
    refine⟨_,h1,.tup _ _ rfl fun i hi=>?_⟩
    match i,hi with
    | 0,_=>exact .p _ _ (h2 (zm0 hse))
    | 1,_=>exact .p _ _ (.bool _)
   .rename_i hse
    cases h
    exact⟨_,h1,.p _ _ (h2 (zm0 hse))⟩
   .cases h
  .cases h
 .cases h
def evL(P:Program)(ob:Nat->Option AObj)(op:Op)(xs:List AV):Option (AV×Option Prop):=
 match op with
 | .load t _=>zct P ob t xs
 | .indexAddr t _ _=>yW P ob t xs
 | .lookup t _ _ ck=>zfc P ob t ck xs
 | .convert s d _=>zhF P ob s d xs
 | .call ⟨.builtin .len,_,ts⟩=>match ts[0]? with|some t=>ziL P ob t xs|none=>none
 | _=>none
theorem zcq.cell{e:TypeId}{mu:Bool}{k n:Nat}{vs:List Value}{g cap:Nat}(h:zcq M w e mu k n vs (some g) cap):
 ∀ j u,vs[j]?=some u->w.cell? ⟨g,j,none⟩=some u:=by
 intro j u hu
 have:=h.own.cells (g:=g) rfl j u hu
 rw[zC,Nat.zero_add]at this;exact this
theorem zcq.len_vs{e:TypeId}{mu:Bool}{k n:Nat}{vs:List Value}{a:Option Nat}{cap:Nat}(h:zcq M w e mu k n vs a cap):vs.length=n*k:=h.own.1
theorem zcq.none{e:TypeId}{mu:Bool}{k n:Nat}{vs:List Value}{cap:Nat}(h:zcq M w e mu k n vs none cap):n=0/\cap=0:=by
 rcases h.own.2 with⟨hv,hn⟩|⟨g,cap',cur,hv,_⟩
 .simp [yP]at hv;exact⟨hn,hv.2⟩
 .simp [yP]at hv
theorem ARel.ref_inv{id off:Nat}{v:Value}(h:ARel γ M (.ref id off) v):∃ b,γ id=some (.cell b)/\v=.pointer (some ⟨b,off,none⟩):=by
 cases h with|ref id off b h=>exact⟨b,h,rfl⟩
theorem ARel.arr_inv{id:Nat}{v:Value}(h:ARel γ M (.arr id) v):∃ a k n cap,γ id=some (.arr a k n cap)/\v=yP a n cap:=by
 cases h with|arr id a k n cap h=>exact⟨a,k,n,cap,h,rfl⟩
theorem ARel.aptr_inv{id i j:Nat}{v:Value}(h:ARel γ M (.aptr id i j) v):∃ g k n cap,γ id=some (.arr (some g) k n cap)/\v=.pointer (some ⟨g,i*k+j,none⟩):=by
 cases h with|aptr id i j g k n cap h=>exact⟨g,k,n,cap,h,rfl⟩
theorem zwC{l:List UInt8}{i:Nat}(h:i<l.length):(l.map zq)[i]?=some (zq (l.getD i 0)):=by
 rw[List.getElem?_map,List.getElem?_eq_getElem h,List.getD_eq_getElem?_getD,List.getElem?_eq_getElem h];rfl
theorem znJ(γ:Nat->Option G)(M:Mem)(c:UInt8):ARel γ M (.p (.int .u8 (c.toNat:Int))) (zq c):=.p _ _ (.int _ _ (zsL c))
theorem zrr{g:Nat}{cur:Array Value}{e:TypeId}{l:List UInt8}(hh:w.heap[g]?=some (.cells cur e (cur.size,cur.size+1)))(ht:cur.toList.take l.length=l.map zq):
 ∀ i c,l[i]?=some c->w.cell? ⟨g,i,none⟩=some (zq c):=by
 intro i c hc
 have h1:(cur.toList.take l.length)[i]?=some (zq c):=by rw[ht,List.getElem?_map,hc];rfl
 have hlt:i<l.length:=by
  rcases Nat.lt_or_ge i l.length with h|h
  .exact h
  .rw [List.getElem?_eq_none h]at hc;cases hc
 rw[List.getElem?_take_of_lt hlt]at h1
 rw[cell_of_row w g i cur e _ hh]
 simpa using h1
theorem zCM{l:List UInt8}{i:Nat}(h:i<l.length):l[i]?=some (l.getD i 0):=by
 rw[List.getElem?_eq_getElem h,List.getD_eq_getElem?_getD,List.getElem?_eq_getElem h];rfl
theorem zes(hs:StG C γ M s a w){t:TypeId}{x r:AV}{ok:Option Prop}(h:zct P s.ob t [x]=some (r,ok))(hok:okP ok){v:Value}
 (hx:ARel γ M x v):∃ u,(Instr.loadAt t v).run P w=.ok u w/\ARel γ M r u:=by
 cases x with
 | ref id off=>
  obtain⟨b,hb,rfl⟩:=hx.ref_inv
  dsimp only[zct]at h
  cases ho:s.ob id with
  | none=>rw[ho]at h;cases h
  | some o=>
   rw[ho]at h
   cases o with
   | cells cs=>
    obtain⟨r',hr,he⟩:=map_some h
    cases he
    obtain⟨b',vs,e,hg,hh,hsz,hc,_⟩:=hs.ob id _ ho
    rw[hb]at hg;cases hg
    obtain⟨u,hu,hrel⟩:=zbC (P:=P) (w:=w) (γ:=γ) (M:=M) hr (b:=b) (off:=off) (g:=fun j=>vs.getD (off+j) undef)
     (fun j hj=>by
      rw[cell_of_row w b (off+j) vs e (0,0) hh,Array.getD_eq_getD_getElem?,Array.getElem?_eq_getElem (by omega)];rfl)
     (fun j hj=>(hc (off+j) (by omega)).1)
    exact⟨u,by simp[Instr.loadAt,Instr.sureAddr,hu],hrel⟩
   | bldr T x=>
    match off,h with
    | 0,h=>cases h
    | 1,h=>
     obtain⟨r',hr,he⟩:=map_some h
     cases he
     obtain⟨b',v0,v1,hg,hh,h0,h1,h2,_⟩:=hs.ob id _ ho
     rw[hb]at hg;cases hg
     obtain⟨u,hu,hrel⟩:=zbC (P:=P) (w:=w) (γ:=γ) (M:=M) hr (b:=b) (off:=1) (g:=fun j=>v1)
      (fun j hj=>by
       have:j=0:=by omega
       subst this
       rw[cell_of_row w b 1 #[v0,v1] T (0,0) hh];rfl)
      (fun j hj=>h1)
     exact⟨u,by simp[Instr.loadAt,Instr.sureAddr,hu],hrel⟩
    | _+2,h=>cases h
   | _=>cases h
 | p q=>
  cases q with
  | box n f=>
   obtain⟨r',hr,he⟩:=map_some h
   cases he
   cases hx.p_inv with
   | box n f b off g hM hf=>
    obtain⟨u,hu,hrel⟩:=zbC (P:=P) (w:=w) (γ:=γ) (M:=M) hr (b:=b) (off:=off) (g:=g)
     (fun j hj=>hs.mem _ _ _ (hM j hj)) (fun j hj=>.p _ _ (hf j hj))
    exact⟨u,by simp[Instr.loadAt,Instr.sureAddr,hu],hrel⟩
  | _=>cases h
 | aptr id i j=>
  obtain⟨g,k,n,cap,hg,rfl⟩:=hx.aptr_inv
  dsimp only[zct]at h
  cases ho:s.ob id with
  | none=>rw[ho]at h;cases h
  | some o=>
   rw[ho]at h
   cases o with
   | cells cs=>cases h
   | barr e mu l=>
    cases j with
    | succ j=>cases h
    | zero=>
     obtain⟨r',hr,he⟩:=map_some h
     cases he
     obtain⟨a',cap',hg',hA⟩:=hs.ob id _ ho
     rw[hg]at hg';cases hg'
     have hlt:i<l.length:=hok
     obtain⟨u,hu,hrel⟩:=zbC (P:=P) (w:=w) (γ:=γ) (M:=M) hr (b:=g) (off:=i*1+0) (g:=fun _=>zq (l.getD i 0))
      (fun q hq=>by
       have:q=0:=by omega
       subst this
       have:=hA.cell i _ (zwC hlt)
       simpa using this)
      (fun q hq=>znJ γ M _)
     exact⟨u,by simp only[Instr.loadAt,Instr.sureAddr,Sem.run_bind,Sem.run_pure,Result.andThen_ok];exact hu,hrel⟩
   | bcv e l=>
    cases j with
    | succ j=>cases h
    | zero=>
     obtain⟨r',hr,he⟩:=map_some h
     cases he
     obtain⟨g',cur,hg',hh,ht,hc,hl,_⟩:=hs.ob id _ ho
     rw[hg]at hg';cases hg'
     have hlt:i<l.length:=hok
     obtain⟨u,hu,hrel⟩:=zbC (P:=P) (w:=w) (γ:=γ) (M:=M) hr (b:=g) (off:=i*1+0) (g:=fun _=>zq (l.getD i 0))
      (fun q hq=>by
       have:q=0:=by omega
       subst this
       have:=zrr hh ht i _ (zCM hlt)
       simpa using this)
      (fun q hq=>znJ γ M _)
     exact⟨u,by simp only[Instr.loadAt,Instr.sureAddr,Sem.run_bind,Sem.run_pure,Result.andThen_ok];exact hu,hrel⟩
   | bldr _ _=>cases h
   | raw _=>cases h
   | mp _ _=>cases h
   | larr e mu k' R=>
    obtain⟨r',hr,he⟩:=map_some h
    cases he
    obtain⟨a',cap',vs,hg',hv,hA⟩:=hs.ob id _ ho
    rw[hg]at hg';cases hg'
    have hlt:i<R.n:=hok
    obtain⟨u,hu,hrel⟩:=zbC (P:=P) (w:=w) (γ:=γ) (M:=M) hr (b:=g) (off:=i*k+j) (g:=fun q=>vs.getD (i*k+(j+q)) undef)
     (fun q hq=>by
      obtain⟨v',hv1,_⟩:=hv i (j+q) hlt (by omega)
      have:=hA.cell _ _ hv1
      rw[List.getD_eq_getElem?_getD,hv1]
      simpa[Nat.add_assoc]using this)
     (fun q hq=>by
      obtain⟨v',hv1,hv2⟩:=hv i (j+q) hlt (by omega)
      rw[List.getD_eq_getElem?_getD,hv1]
      exact .p _ _ hv2)
    exact⟨u,by simp only[Instr.loadAt,Instr.sureAddr,Sem.run_bind,Sem.run_pure,Result.andThen_ok];exact hu,hrel⟩
 | _=>cases h
theorem zhv{t:TypeId}(h:zau P t=true):∃ e,P.underlying t=some (.slice e)/\P.underlying e=some (.int .u8):=by
 unfold zau at h
 split at h
 .rename_i e he
  refine⟨e,zam he,?_⟩
  split at h
  .assumption
  .cases h
 .cases h
theorem run_bytesToString(b off cap:Nat)(l:List UInt8)(h:∀ i c,l[i]?=some c->w.cell? ⟨b,off+i,none⟩=some (zq c)):
 (Conv.bytesToString (.slice (some ⟨b,off,none⟩) l.length cap)).run P w=.ok (.string ⟨l.toArray⟩) w:=by
 have hl:=run_loadCells_list (P:=P) w ⟨b,off,none⟩ (l.map zq) (fun j v hv=>by
  rw[zC]
  rw[List.getElem?_map]at hv
  cases hc:l[j]? with
  | none=>rw[hc]at hv;cases hv
  | some c=>rw[hc]at hv;cases hv;exact h j c hc)
 rw[List.length_map]at hl
 have e1:l.map zq=(l.map fun c=>(c.toNat:Int)).map (Value.int .u8):=by rw[List.map_map];rfl
 rw[e1]at hl
 rw[Go.run_bytesToString w _ l.length cap _ hl,foldl_push_bytes]
 have e2:(l.map fun c=>(c.toNat:Int)).map (fun n=>UInt8.ofNat n.toNat)=l:=by
  rw[List.map_map]
  conv=>rhs;rw[<-List.map_id l]
  exact List.map_congr_left fun c _=>by simp
 rw[e2]
 simp[ByteArray.empty,ByteArray.emptyWithCapacity]
 rfl
theorem yU{sT d:TypeId}(hT:(zau P sT&&zaP P d)=true)(v:Value)(hv:∃ x n c,v=.slice x n c):
 (convert sT d v).run P w=(Conv.bytesToString v).run P w:=by
 rw[Bool.and_eq_true]at hT
 obtain⟨e,h1,h2⟩:=zhv hT.1
 have h3:=zbz hT.2
 obtain⟨x,n,c,rfl⟩:=hv
 simp[convert,run_underlying h1,run_underlying h2,run_underlying h3]
theorem zmu(hs:StG C γ M s a w){sT d:TypeId}{x r:AV}{ok:Option Prop}(h:zhF P s.ob sT d [x]=some (r,ok)){v:Value}
 (hx:ARel γ M x v):∃ u,(convert sT d v).run P w=.ok u w/\ARel γ M r u:=by
 cases x with
 | arr id=>
  obtain⟨a',k,n,cap,hg,rfl⟩:=hx.arr_inv
  dsimp only[zhF]at h
  cases ho:s.ob id with
  | none=>rw[ho]at h;cases h
  | some o=>
   rw[ho]at h
   cases o with
   | barr e mu l=>
    obtain⟨hT,he⟩:=zp h
    cases he
    obtain⟨a2,cap2,hg',hA⟩:=hs.ob id _ ho
    rw[hg]at hg';cases hg'
    rw[yU hT (yP a' l.length cap) ⟨_,_,_,rfl⟩]
    cases a' with
    | none=>
     have:=hA.none
     have hl:l=[]:=List.eq_nil_of_length_eq_zero this.1
     subst hl
     exact⟨.string .empty,rfl,.p _ _ (.str [] (by simp))⟩
    | some g=>
     exact⟨_,run_bytesToString g 0 cap l (fun i c hc=>by
      have:=hA.cell i (zq c) (by rw[List.getElem?_map,hc];rfl)
      simpa using this),.p _ _ (.str _ hA.len)⟩
   | bcv e l=>
    obtain⟨hT,he⟩:=zp h
    cases he
    obtain⟨g,cur,hg',hh,ht,hc,hl,_⟩:=hs.ob id _ ho
    rw[hg]at hg';cases hg'
    rw[yU hT (yP (some g) l.length cur.size) ⟨_,_,_,rfl⟩]
    exact⟨_,run_bytesToString g 0 cur.size l (fun i c hc=>by
     have:=zrr hh ht i c hc
     simpa using this),.p _ _ (.str _ hl)⟩
   | _=>cases h
 | p q=>
  cases q with
  | bytes l=>
   obtain⟨hT,he⟩:=zp h
   cases he
   rcases zf8 hx.p_inv with⟨rfl,rfl⟩|⟨b,off,cap,rfl,hm,hc,hM⟩
   .rw [yU hT _ ⟨_,_,_,rfl⟩]
    exact⟨.string .empty,rfl,.p _ _ (.str [] (by simp))⟩
   .rw [yU hT _ ⟨_,_,_,rfl⟩]
    exact⟨_,run_bytesToString b off cap l (fun i c hc=>hs.mem _ _ _ (hM i c hc)),.p _ _ (.str _ hm)⟩
  | nil=>
   obtain⟨hT,he⟩:=zp h
   cases he
   cases hx.p_inv
   rw[yU hT _ ⟨_,_,_,rfl⟩]
   exact⟨.string .empty,rfl,.p _ _ (.str [] (by simp))⟩
  | _=>cases h
 | _=>cases h
theorem zgQ(hs:StG C γ M s a w){t:TypeId}{x y r:AV}{ok:Option Prop}(h:yW P s.ob t [x,y]=some (r,ok))(hok:okP ok){v u:Value}
 (hx:ARel γ M x v) (hy:ARel γ M y u):∃ q,(Instr.indexAt t v u).run P w=.ok q w/\ARel γ M r q:=by
 cases x with
 | arr id=>
  cases y with
  | p y=>
   cases y with
   | int kk i=>
    obtain⟨a',k,n,cap,hg,rfl⟩:=hx.arr_inv
    have hu:=hy.int_inv.1
    subst hu
    dsimp only[yW]at h
    cases ho:s.ob id with
    | none=>rw[ho]at h;cases h
    | some o=>
     cases hk:zaS P t with
     | none=>rw[ho,hk]at h;cases o <;> cases h
     | some k1=>
      rw[ho,hk]at h
      cases o with
      | cells cs=>cases h
      | barr e mu l=>
       obtain⟨hT,he⟩:=zp h
       cases he
       have hT:=Nat.eq_of_beq_eq_true hT
       subst hT
       obtain⟨a2,cap2,hg',hA⟩:=hs.ob id _ ho
       rw[hg]at hg';cases hg'
       cases a' with
       | none=>have:=hA.none;exact absurd hok.2 (by omega)
       | some g=>exact⟨_,yT hk g 0 _ _ _ _ hok.1 hok.2 w,by rw[Nat.zero_add];exact .aptr id _ _ _ _ _ _ hg⟩
      | bcv e l=>
       obtain⟨hT,he⟩:=zp h
       cases he
       have hT:=Nat.eq_of_beq_eq_true hT
       subst hT
       obtain⟨g,cur,hg',hh,ht,hc,hl,_⟩:=hs.ob id _ ho
       rw[hg]at hg';cases hg'
       exact⟨_,yT hk g 0 _ _ _ _ hok.1 hok.2 w,by rw[Nat.zero_add];exact .aptr id _ _ _ _ _ _ hg⟩
      | bldr _ _=>cases h
      | raw _=>cases h
      | mp _ _=>cases h
      | larr e mu k2 R=>
       obtain⟨hT,he⟩:=zp h
       cases he
       have hT:=Nat.eq_of_beq_eq_true hT
       subst hT
       obtain⟨a2,cap2,vs,hg',hv,hA⟩:=hs.ob id _ ho
       rw[hg]at hg';cases hg'
       cases a' with
       | none=>have:=hA.none;exact absurd hok.2 (by omega)
       | some g=>exact⟨_,yT hk g 0 _ _ _ _ hok.1 hok.2 w,by rw[Nat.zero_add];exact .aptr id _ _ _ _ _ _ hg⟩
   | _=>cases h
  | _=>cases h
 | _=>cases h
theorem zoZ(hs:StG C γ M s a w){t:TypeId}{x r:AV}{ok:Option Prop}(h:ziL P s.ob t [x]=some (r,ok)){v:Value}
 (hx:ARel γ M x v) (ts:Array TypeId) (ht:ts[0]?=some t) (ty:TypeId):∃ q,(Builtin.len_ ts ty #[v]).run P w=.ok q w/\ARel γ M r q:=by
 cases x with
 | arr id=>
  obtain⟨a',k,n,cap,hg,rfl⟩:=hx.arr_inv
  dsimp only[ziL]at h
  cases ho:s.ob id with
  | none=>rw[ho]at h;cases h
  | some o=>
   rw[ho]at h
   cases o with
   | cells cs=>cases h
   | barr e mu l=>
    obtain⟨hT,he⟩:=zp h
    cases he
    obtain⟨e',hu⟩:=yn hT
    obtain⟨a2,cap2,hg',hA⟩:=hs.ob id _ ho
    rw[hg]at hg';cases hg'
    exact⟨_,by simp[Builtin.len_,ht,run_underlying hu,yP,goInt],.p _ _ (.int _ _ (yH hA.len))⟩
   | bcv e l=>
    obtain⟨hT,he⟩:=zp h
    cases he
    obtain⟨e',hu⟩:=yn hT
    obtain⟨g,cur,hg',hh,ht2,hc,hl,_⟩:=hs.ob id _ ho
    rw[hg]at hg';cases hg'
    exact⟨_,by simp[Builtin.len_,ht,run_underlying hu,yP,goInt],.p _ _ (.int _ _ (yH hl))⟩
   | bldr _ _=>cases h
   | raw _=>cases h
   | mp _ _=>cases h
   | larr e mu k2 R=>
    obtain⟨hT,he⟩:=zp h
    cases he
    obtain⟨e',hu⟩:=yn hT
    obtain⟨a2,cap2,vs,hg',hv,hA⟩:=hs.ob id _ ho
    rw[hg]at hg';cases hg'
    exact⟨_,by simp[Builtin.len_,ht,run_underlying hu,yP,goInt],.p _ _ (.int _ _ (yH hA.len))⟩
 | _=>cases h
theorem zwi(hs:StG C γ M s a w)(o:Oper){xs:List AV}{r:AV}{ok:Option Prop}(h:evL P s.ob o.op xs=some (r,ok))(hok:okP ok)
 {ρ:Operand->Value} (hx:ARels γ M xs (o.op.operands.toList.map ρ)):∃ v,(execOp ρ o).run P w=.ok (.value v) w/\ARel γ M r v:=by
 obtain⟨dst,op,type,pos,after,guard⟩:=o
 dsimp only at hx h
 cases op <;> simp only[evL,reduceCtorEq]at h <;> simp only[Op.operands,List.map_cons,List.map_nil]at hx
 case load t x=>
  cases hx with
  | cons h1 ht=>
   cases ht with
   | nil=>
    obtain⟨v,hv,hr⟩:=zes (P:=P) hs h hok h1
    exact⟨v,by simp[execOp,hv],hr⟩
 case lookup t x i ck=>
  cases hx with
  | cons h1 ht=>
   cases ht with
   | cons h2 ht=>
    cases ht with
    | nil=>
     obtain⟨v,hv,hr⟩:=zlF (P:=P) hs h h1 h2
     exact⟨v,by simp[execOp,hv],hr⟩
 case convert sT d x=>
  cases hx with
  | cons h1 ht=>
   cases ht with
   | nil=>
    obtain⟨v,hv,hr⟩:=zmu (P:=P) hs h h1
    exact⟨v,by simp[execOp,hv],hr⟩
 case indexAddr t x i=>
  cases hx with
  | cons h1 ht=>
   cases ht with
   | cons h2 ht=>
    cases ht with
    | nil=>
     obtain⟨v,hv,hr⟩:=zgQ (P:=P) hs h hok h1 h2
     exact⟨v,by simp[execOp,hv],hr⟩
 case call c=>
  obtain⟨callee,args,ts⟩:=c
  cases callee with
  | value f=>cases h
  | invoke r m=>cases h
  | builtin b=>
   cases b <;> dsimp only at h <;> first|(cases h;done)|skip
   have hx':ARels γ M xs (args.toList.map ρ):=by simpa[Call.operands]using hx
   cases hts:ts[0]? with
   | none=>rw[hts]at h;cases h
   | some t=>
    rw[hts]at h
    dsimp only at h
    cases args with
    | mk al=>
    dsimp only at hx'
    generalize hvs:al.map ρ=vs at hx'
    have hal:(List.toArray al).map ρ=vs.toArray:=by rw[<-hvs];simp
    cases hx' with
    | nil=>cases h
    | cons ha ht=>
     cases ht with
     | cons _ _=>simp[ziL]at h
     | nil=>
      obtain⟨v,hv,hr⟩:=zoZ (P:=P) hs h ha ts hts type
      refine⟨v,?_,hr⟩
      simp only[execOp,resolve,Sem.run_bind,Sem.run_pure,Result.andThen_ok,invoke,builtin,hal,hv]
end Go.Am
/-! Filling rows of cells;'build'. -/
namespace Go.Am
open Go Go.RowKit
variable {P:Program}{γ γ':Nat->Option G}{M M':Mem}{C:Ctx}{s s':S}{a a':Act}{w w':World}
def zrC(γ:Nat->Option G)(M:Mem)(cs:List AV)(vs:Array Value):Prop:=
 vs.size=cs.length/\∀ j,j<cs.length->ARel γ M (cs.getD j .any) (vs.getD j undef)
def over(cs:List AV)(off:Nat)(xs:List AV):List AV:=cs.take off++(xs++cs.drop (off+xs.length))
theorem zdW(off:Nat):∀ (l:List Value) (n:Nat) (cells:Array Value),
 ((l.zipIdx n).foldl (fun cs x=>cs.setIfInBounds (off+x.2) x.1) cells).size=cells.size/\
 ∀ j,off+n+l.length<=cells.size->((l.zipIdx n).foldl (fun cs x=>cs.setIfInBounds (off+x.2) x.1) cells)[j]?=
  if off+n<=j/\j<off+n+l.length then l[j-(off+n)]? else cells[j]?
 | [],n,cells=>by
  refine⟨rfl,fun j _=>?_⟩
  rw[if_neg (by simp)];rfl
 | v::l,n,cells=>by
  obtain⟨h1,h2⟩:=zdW off l (n+1) (cells.setIfInBounds (off+n) v)
  simp only[List.zipIdx_cons,List.foldl_cons,List.length_cons]
  refine⟨by rw[h1];simp,fun j hj=>?_⟩
  rw[h2 j (by simp;omega)]
  by_cases e:j=off+n
  .subst e
   rw[if_neg (by omega),if_pos (by omega)]
   rw[Array.getElem?_setIfInBounds_self_of_lt (by omega)]
   simp
  .rw [Array.getElem?_setIfInBounds_ne (by omega)]
   by_cases hc:off+(n+1)<=j/\j<off+(n+1)+l.length
   .rw [if_pos hc,if_pos (by omega)]
    obtain⟨q,hq⟩:∃ q,j-(off+n)=q+1:=⟨j-(off+n)-1,by omega⟩
    have hq2:j-(off+(n+1))=q:=by omega
    rw[hq,hq2];rfl
   .rw [if_neg hc,if_neg (by omega)]
theorem zcg{cs:List AV}{off:Nat}{xs:List AV}(h:off+xs.length<=cs.length):(over cs off xs).length=cs.length:=by
 simp[over];omega
theorem zqb{cs:List AV}{off:Nat}{xs:List AV}(h:off+xs.length<=cs.length)(j:Nat):
 (over cs off xs).getD j .any=if off<=j/\j<off+xs.length then xs.getD (j-off) .any else cs.getD j .any:=by
 unfold over
 simp only[List.getD_eq_getElem?_getD]
 by_cases h1:j<off
 .rw [List.getElem?_append_left (by simp;omega),if_neg (by omega),List.getElem?_take,if_pos h1]
 .rw [List.getElem?_append_right (by simp;omega)]
  have e:(cs.take off).length=off:=by simp;omega
  rw[e]
  by_cases h2:j<off+xs.length
  .rw [List.getElem?_append_left (by omega),if_pos (by omega)]
  .rw [List.getElem?_append_right (by omega),if_neg (by omega),List.getElem?_drop]
   congr 2
   omega
def AV.cells?:AV->Option (List AV)
 | .agg cs=>some cs
 | x=>match x.one with|true=>some [x]|false=>none
theorem zdb{x:AV}{ys:List AV}(h:x.cells?=some ys){v:Value}(hx:ARel γ M x v):zrC γ M ys v.cells:=by
 cases x with
 | agg cs=>
  cases h
  obtain⟨vs,rfl,hs,hr⟩:=hx.agg_inv
  exact⟨hs,hr⟩
 | any=>cases h
 | tup cs=>cases h
 | gd c y=>cases h
 | _=>
  cases h
  have h1:=hx.oneCell rfl
  have e:v.cells=#[v]:=by cases v <;> first|rfl|cases h1
  rw[e]
  refine⟨rfl,fun j hj=>?_⟩
  have:j=0:=by simp at hj;omega
  subst this
  exact hx
def zl5(place:Nat->Option (Nat×Nat))(cs:List AV):List (Nat×AV)->Option (List AV)
 | []=>some cs
 | (i,x)::rest=>match place i,x.cells? with
  | some (off,size),some ys=>match Nat.beq ys.length size&&Nat.ble (off+ys.length) cs.length with
   | true=>zl5 place (over cs off ys) rest
   | false=>none
  | _,_=>none
inductive zdj(γ:Nat->Option G)(M:Mem):List (Nat×AV)->List (Nat×Value)->Prop
 | nil:zdj γ M [] []
 | cons {i:Nat} {x:AV} {v:Value} {xs:List (Nat×AV)} {vs:List (Nat×Value)} (h:ARel γ M x v) (t:zdj γ M xs vs):zdj γ M ((i,x)::xs) ((i,v)::vs)
theorem zc8(place:Nat->Option (Nat×Nat)):∀ (xs:List (Nat×AV)) (vs:List (Nat×Value)) (cs r:List AV) (cells:Array Value),
 zl5 place cs xs=some r->zdj γ M xs vs->zrC γ M cs cells->∃ cells',Instr.fill place cells vs=some cells'/\zrC γ M r cells':=by
 intro xs
 induction xs with
 | nil=>intro vs cs r cells h hp hc;cases hp;cases h;exact⟨cells,rfl,hc⟩
 | cons x xs ih=>
  intro vs cs r cells h hp hc
  cases hp with
  | @cons i x v _ vs hv ht=>
   simp only[zl5]at h
   cases hpl:place i with
   | none=>rw[hpl]at h;cases h
   | some ps=>
    obtain⟨off,size⟩:=ps
    cases hcl:x.cells? with
    | none=>rw[hpl,hcl]at h;cases h
    | some ys=>
     rw[hpl,hcl]at h
     dsimp only at h
     split at h
     .rename_i hb
      rw[Bool.and_eq_true]at hb
      have h1:=Nat.eq_of_beq_eq_true hb.1
      have h2:=Nat.le_of_ble_eq_true hb.2
      have hcv:=zdb hcl hv
      obtain⟨hs,hr⟩:=hcv
      have hcond:(decide (v.cells.size≠size)||decide (off+v.cells.size>cells.size))=false:=by
       rw[Bool.or_eq_false_iff,decide_eq_false_iff_not,decide_eq_false_iff_not,hs,hc.1];omega
      simp only[Instr.fill,hpl,hcond,Bool.false_eq_true,if_false]
      refine ih vs (over cs off ys) r _ h ht ?_
      obtain⟨g1,g2⟩:=zdW off v.cells.toList 0 cells
      have e:(v.cells.zipIdx.foldl (fun cs x=>match x with|(c,j)=>cs.setIfInBounds (off+j) c) cells)=
       ((v.cells.toList.zipIdx 0).foldl (fun cs x=>cs.setIfInBounds (off+x.2) x.1) cells):=by
       rw[<-Array.foldl_toList]
       simp
      rw[e]
      have hlen:v.cells.toList.length=ys.length:=by simpa using hs
      refine⟨by rw[g1,zcg h2];exact hc.1,fun j hj=>?_⟩
      rw[zcg h2]at hj
      have hg:=g2 j (by rw[hlen,hc.1];omega)
      rw[zqb h2,Array.getD_eq_getD_getElem?,hg,hlen]
      by_cases hcnd:off<=j/\j<off+ys.length
      .rw [if_pos hcnd,if_pos (by omega)]
       have:=hr (j-off) (by omega)
       rw[Array.getD_eq_getD_getElem?]at this
       simpa using this
      .rw [if_neg hcnd,if_neg (by omega)]
       have:=hc.2 j hj
       rw[Array.getD_eq_getD_getElem?]at this
       exact this
     .cases h
def zaL(P:Program)(t:TypeId):Option (List AV):=
 match P.info? t with
 | some i=>match i.zero with
  | some z=>match z.cells.toList.all (·.oneCell')with
   | true=>some (z.cells.toList.map zgZ)
   | false=>none
  | none=>none
 | none=>none
theorem ye{t:TypeId}{cs:List AV}(h:zaL P t=some cs):∃ i z,P.info? t=some i/\i.zero=some z/\(∀ v ∈ z.cells.toList,v.oneCell'=true)/\cs=z.cells.toList.map zgZ:=by
 unfold zaL at h
 cases hi:P.info? t with
 | none=>rw[hi]at h;cases h
 | some i=>
  rw[hi]at h
  dsimp only at h
  cases hz:i.zero with
  | none=>rw[hz]at h;cases h
  | some z=>
   rw[hz]at h
   dsimp only at h
   split at h
   .rename_i hall
    cases h
    exact⟨i,z,rfl,hz,fun v hv=>(List.all_eq_true.1 hall) v hv,rfl⟩
   .cases h
theorem zbM(γ:Nat->Option G)(M:Mem)(vs:Array Value):zrC γ M (vs.toList.map zgZ) vs:=by
 refine⟨by simp,fun j hj=>?_⟩
 have hj':j<vs.size:=by simpa using hj
 have e:(vs.toList.map zgZ).getD j .any=zgZ vs[j]:=by
  rw[List.getD_eq_getElem?_getD,List.getElem?_map,List.getElem?_eq_getElem (by simpa using hj')];simp
 have e2:vs.getD j undef=vs[j]:=by rw[Array.getD_eq_getD_getElem?,Array.getElem?_eq_getElem hj'];rfl
 rw[e,e2]
 exact zrv γ M _
def zoe(P:Program)(fs:Array Field):Option (List (Nat×Nat)):=
 fs.toList.mapM fun f=>(zax P f.type).map fun n=>(f.offset,n)
def zo0(P:Program)(t:TypeId)(ix:List Nat)(xs:List AV):Option (AV×Option Prop):=
 match zaL P t,P.underlying t with
 | some z,some (.struct fs)=>match zoe P fs with
  | some ps=>(zl5 (fun i=>ps[i]?) z (ix.zip xs)).map fun cs=>(.agg cs,none)
  | none=>none
 | _,_=>none
theorem zsn:∀ (fs:List Field) (ps:List (Nat×Nat)),(fs.mapM fun f=>(zax P f.type).map fun n=>(f.offset,n))=some ps->
 ∀ w,(fs.mapM (m:=Sem) fun f=>do pure (f.offset,<-sizeOf f.type)).run P w=.ok ps w:=by
 intro fs
 induction fs with
 | nil=>intro ps h w;simp at h;subst h;rfl
 | cons f fs ih=>
  intro ps h w
  rw[List.mapM_cons]at h
  cases hf:zax P f.type with
  | none=>rw[hf]at h;cases h
  | some n=>
   rw[hf]at h
   simp only[Option.map_some,Option.pure_def,Option.bind_eq_bind,Option.bind_some]at h
   cases hr:(fs.mapM fun f=>(zax P f.type).map fun n=>(f.offset,n))with
   | none=>rw[hr]at h;cases h
   | some ps'=>
    rw[hr]at h
    cases h
    rw[List.mapM_cons]
    simp only[Sem.run_bind,yf hf,Result.andThen_ok,Sem.run_pure,ih ps' hr w]
theorem zdj.of{xs:List AV}:∀ {ix:List Nat} {ps:List (Nat×Operand)} {ρ:Operand->Value},ARels γ M xs (ps.map fun p=>ρ p.2)->ix=ps.map (·.1)->
 zdj γ M (ix.zip xs) (ps.map fun p=>(p.1,ρ p.2)):=by
 intro ix ps ρ h hi
 subst hi
 induction ps generalizing xs with
 | nil=>cases h;exact .nil
 | cons p ps ih=>cases h with|cons h t=>exact .cons h (ih t)
theorem zmw{t:TypeId}{ps:Array (Nat×Operand)}{xs:List AV}{r:AV}{ok:Option Prop}{ρ:Operand->Value}
 (h:zo0 P t (ps.toList.map (·.1)) xs=some (r,ok)) (hx:ARels γ M xs (ps.toList.map fun p=>ρ p.2)) (w:World):
 ∃ v,(Instr.build t (ps.map fun(i,x)=>(i,ρ x))).run P w=.ok v w/\ARel γ M r v:=by
 unfold zo0 at h
 cases hz:zaL P t with
 | none=>rw[hz]at h;cases h
 | some z=>
  rw[hz]at h
  split at h
  .rename_i z' fs hz' hu
   cases hz'
   split at h
   .rename_i places hpl
    obtain⟨cs,hf,he⟩:=map_some h
    cases he
    obtain⟨i,zv,hi,hzv,_,rfl⟩:=ye hz
    obtain⟨cells',hc1,hc2⟩:=zc8 (γ:=γ) (M:=M) (fun i=>places[i]?) _ _ _ _ zv.cells hf (zdj.of hx rfl) (zbM γ M zv.cells)
    have hrun:=zsn (P:=P) fs.toList places hpl w
    refine⟨.agg cells',?_,.agg _ _ hc2.1 hc2.2⟩
    have e:(ps.map fun(x:Nat×Operand)=>(x.1,ρ x.2)).toList=ps.toList.map fun p=>(p.1,ρ p.2):=by simp
    have hm:(fs.mapM (m:=Sem) fun f=>do pure (f.offset,<-sizeOf f.type)).run P w=.ok places.toArray w:=by
     rw[Array.mapM_eq_mapM_toList,Sem.run_map,hrun]
     rfl
    simp only[Instr.build,Sem.run_bind,zeroValue,typeInfo,run_program,Result.andThen_ok,hi,Sem.run_pure,hzv,run_underlying hu,hm]
    have e3:(fun(i:Nat)=>places.toArray[i]?)=fun(i:Nat)=>places[i]?:=by funext i;simp
    rw[e3,e,hc1]
    rfl
   .cases h
  .cases h
end Go.Am
