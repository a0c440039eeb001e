/-
  The abstract machine of these proofs.
-/
import Derived.WalkKit
import Derived.CallsIn
import Derived.OrdersIn
import Derived.Deep.AppendSrc
import Derived.OpenShut
import Derived.Laws.StructEq
import Derived.Lib.ConvBytes
set_option linter.unusedVariables false
noncomputable section
/-! What the cells of a slice say, as plain data: by codes. -/
namespace Go.Am
open Go
inductive zeR where
 | mk (type:List UInt8) (params:List (List UInt8×List UInt8)) (enc:List UInt8) (attach:Bool) (head:Int) (frm:Int) (til:Int) (kids:List zeR)
 deriving Inhabited
inductive zj0 where
 | mk (kind:Int) (num:Int) (text:List UInt8) (keys:List (List UInt8)) (kids:List zj0)
 deriving Inhabited
def zeR.type:zeR->List UInt8|.mk a _ _ _ _ _ _ _=>a
def zeR.params:zeR->List (List UInt8×List UInt8)|.mk _ a _ _ _ _ _ _=>a
def zeR.enc:zeR->List UInt8|.mk _ _ a _ _ _ _ _=>a
def zeR.attach:zeR->Bool|.mk _ _ _ a _ _ _ _=>a
def zeR.head:zeR->Int|.mk _ _ _ _ a _ _ _=>a
def zeR.frm:zeR->Int|.mk _ _ _ _ _ a _ _=>a
def zeR.til:zeR->Int|.mk _ _ _ _ _ _ a _=>a
def zeR.kids:zeR->List zeR|.mk _ _ _ _ _ _ _ a=>a
def zj0.kind:zj0->Int|.mk a _ _ _ _=>a
def zj0.num:zj0->Int|.mk _ a _ _ _=>a
def zj0.text:zj0->List UInt8|.mk _ _ a _ _=>a
def zj0.keys:zj0->List (List UInt8)|.mk _ _ _ a _=>a
def zj0.kids:zj0->List zj0|.mk _ _ _ _ a=>a
inductive Ec where
 | bool
 | int (k:IntKind)
 | str
 | bytes
 | pair (a b:Ec)
 | list (a:Ec)
 | part
 | node
 | box (a:Ec)
 deriving DecidableEq,Inhabited
@[reducible] def Elt:Ec->Type
 | .bool=>Bool
 | .int _=>Int
 | .str=>List UInt8
 | .bytes=>List UInt8
 | .pair a b=>Elt a×Elt b
 | .list a=>List (Elt a)
 | .part=>zeR
 | .node=>zj0
 | .box a=>Elt a
@[reducible] def dfl:(c:Ec)->Elt c
 | .bool=>false
 | .int _=>(0:Int)
 | .str=>([]:List UInt8)
 | .bytes=>([]:List UInt8)
 | .pair a b=>(dfl a,dfl b)
 | .list a=>([]:List (Elt a))
 | .part=>(.mk [] [] [] false 0 0 0 []:zeR)
 | .node=>(.mk 0 0 [] [] []:zj0)
 | .box a=>dfl a
def wid:Ec->Nat
 | .pair a b=>wid a+wid b
 | .part=>8
 | .node=>5
 | _=>1
end Go.Am
/-! The seat's own: the globals that hold an integer, and are read;the globals that hold a table of uint64. -/
namespace Go.Am
def zTM:List Nat:=[0]
def zQH:List (Nat×List Int):=[]
end Go.Am
/-! Frames of functions and of rounds: the wide fence, at a loop's record or at none. -/
namespace Go.Am
open Go Go.RowKit
variable {P:Program}{a:Act}{w w':World}{r:Option Nat}{Q:Exit->Act->World->Prop}
abbrev FW(r:Option Nat):Fence:={ fn:=fun _=>True,depth:=none,alive:=false,round:=r }
theorem zft{n:Nat}{f:FuncId}{args:Array Value}{R:Ending->World->Prop}:CallsIn (FW r) n P f args w R↔Calls P f args w R:=(callsIn_wide (n:=n) (P:=P) (f:=f) (args:=args) (w:=w) (R:=R))
theorem zFO{ρ:Operand->Value}{o:Oper}{x:Next}(h:(execOp ρ o).run P w=.ok x w')(hx:∀ d,x≠.defer d):∀ c,o.op≠.defer c:=by
 intro c hc
 obtain⟨dst,op,type,pos,after,guard⟩:=o
 dsimp only at hc
 subst hc
 simp only[execOp,Sem.run_bind]at h
 cases hr:(resolve ρ c type).run P w with
 | ok d w1=>rw[hr]at h;simp[Sem.run_pure]at h;exact hx d h.1.symm
 | halt _ _=>rw[hr]at h;cases h
theorem znH{o:Oper}{x:Next}{next:Act->World->Prop}(h:(execOp a.eval o).run P w=.ok x w')(hx:∀ d,x≠.defer d)(k:o.uponIn (FW r) 0 P a next Q (.ok x w')):o.wpIn (FW r) 0 P a w next Q:=by
 refine⟨fun _ _=>trivial,?_⟩
 rw[Oper.semAt_eq _ _ _ (zFO h hx),h]
 exact k
theorem zb3{o:Oper}{v:Value}{next:Act->World->Prop}(h:(execOp a.eval o).run P w=.ok (.value v) w')(k:next (a.put o.dst v) w'):o.wpIn (FW r) 0 P a w next Q:=znH h (fun _ e=>by cases e) k
theorem zoh{o:Oper}{next:Act->World->Prop}(h:(execOp a.eval o).run P w=.ok .skip w')(k:next (a.put o.dst undef) w'):o.wpIn (FW r) 0 P a w next Q:=znH h (fun _ e=>by cases e) k
theorem zsf{o:Oper}{f:FuncId}{args:Array Value}{next:Act->World->Prop}(h:(execOp a.eval o).run P w=.ok (.enter f args) w')
 (k:Calls P f args w' fun e w''=>∃ v,e=.returned v/\next (a.put o.dst v) w''):o.wpIn (FW r) 0 P a w next Q:=
 znH h (fun _ e=>by cases e) ⟨fun h=>(by cases h),zft.2 (k.mono fun e w'' ⟨v,he,hn⟩=>by subst he;exact hn)⟩
section
variable {b:Frame}{k:List Item}{cs:List Frame}
theorem zbv{c:Code}:step P (lone (b.atR a (.code (.scope c)::k)) cs w)=.next (lone (b.atR a (.code c::.inScope c::k)) cs w):=
 step_lone_go (by simp[stepG,stepG.exec,Frame.atR])
theorem zrv{c:Code}:step P (lone (b.atR a (.inScope c::k)) cs w)=.next (lone (b.atR a k) cs w):=
 step_lone_go (by simp[stepG,stepG.exec,Frame.atR])
end
theorem zhQ{F:Fence}{n:Nat}{c:Code}(h:c.wpIn F n P (Exit.noGoto Q) a w):(Code.scope c).wpIn F n P Q a w:=by
 intro b k cs hro hb hr
 have h0:(lone (b.atR a (.code (.scope c)::k)) cs w).fenced P F:=fenced_calm hb hr rfl
 obtain⟨e,a₁,w₁,hq,harr⟩:=h b (.inScope c::k) cs hro hb hr
 cases e with
 | normal=>exact⟨.normal,a₁,w₁,hq,.head h0 zbv (StepsIn.trans harr (.one (fenced_calm hb hr rfl) zrv))⟩
 | exit id=>
  have hx:exitTo id (.inScope c::k)=exitTo id k:=by simp[exitTo]
  exact⟨.exit id,a₁,w₁,hq,fun k' hk=>.head h0 zbv (harr.1 k' (by rw[hx];exact hk)),
   fun hr' hk=>let ⟨k₁,h1,h2⟩:=harr.2 hr' (by rw[hx];exact hk);⟨k₁,h1,.head h0 zbv h2⟩⟩
 | goto l=>exact hq.elim
 | ret=>exact⟨_,a₁,w₁,hq,.of_steps (.one h0 zbv) harr⟩
 | panic ch=>exact⟨_,a₁,w₁,hq,.of_steps (.one h0 zbv) harr⟩
 | outgrown=>exact⟨_,a₁,w₁,hq,.of_steps (.one h0 zbv) harr⟩
theorem zml{F:Fence}{n:Nat}{c:Code}(I:Nat->Act->World->Prop)
 (round:∀ n' a w,I n' a w->c.wpIn F n P (Exit.then (fun a' w'=>∃ m,m<n'/\I m a' w') Q) a w) (n₀:Nat) (h₀:I n₀ a w):(Code.loop c).wpIn F n P Q a w:=by
 intro b k cs hro hb hr
 have key:∀ j a w,I j a w->∃ e a' w',Q e a' w'/\ArrivesIn (Machine.fenced P F) P (lone (b.atR a (.code c::.inLoop c::k)) cs w) b k cs e a' w':=by
  intro j
  induction j using Nat.strongRecOn with
  | _ j ih=>
   intro a w hI
   obtain⟨e,a₁,w₁,hq,harr⟩:=round j a w hI b (.inLoop c::k) cs hro hb hr
   cases e with
   | normal=>
    obtain⟨m,hlt,hI₁⟩:=hq
    obtain⟨e₂,a₂,w₂,hq₂,harr₂⟩:=ih m hlt a₁ w₁ hI₁
    exact⟨e₂,a₂,w₂,hq₂,.of_steps (StepsIn.trans harr (.one (fenced_calm hb hr rfl) stepR_inLoop)) harr₂⟩
   | exit id=>exact⟨_,a₁,w₁,hq,.pass (x:=.inLoop c) rfl (fun _ _=>.inl (by simp)) harr⟩
   | goto l=>exact⟨_,a₁,w₁,hq,.pass (x:=.inLoop c) rfl (fun _ _=>.inl (by simp)) harr⟩
   | ret=>exact⟨_,a₁,w₁,hq,.pass (x:=.inLoop c) rfl (fun _ _=>.inl (by simp)) harr⟩
   | panic ch=>exact⟨_,a₁,w₁,hq,.pass (x:=.inLoop c) rfl (fun _ _=>.inl (by simp)) harr⟩
   | outgrown=>exact⟨_,a₁,w₁,hq,.pass (x:=.inLoop c) rfl (fun _ _=>.inl (by simp)) harr⟩
 obtain⟨e,a',w',hq,harr⟩:=key n₀ a w h₀
 exact⟨e,a',w',hq,.of_steps (.one (fenced_calm hb hr rfl) stepR_loop) harr⟩
end Go.Am
/-! The abstract machine: values, relation to the model's values. -/
namespace Go.Am
open Go Go.RowKit
abbrev Mem:=Nat->Nat->Option Value
mutual
inductive PV where
 | bool (b:Bool)
 | int (k:IntKind) (n:Int)
 | str (l:List UInt8)
 | plain (v:Value)
 | nil
 | bytes (l:List UInt8)
 | list (k:Nat) (R:Rows)
 | box (n:Nat) (f:Nat->PV)
 | bad
inductive Rows where
 | fn (n:Nat) (f:Nat->Nat->PV)
 | dat (c:Ec) (l:List (Elt c))
end
instance:Inhabited PV:=⟨.bad⟩
def cell:(c:Ec)->Elt c->Nat->PV
 | .bool,x,_=>.bool x
 | .int k,x,_=>.int k x
 | .str,x,_=>.str x
 | .bytes,x,_=>.bytes x
 | .pair a b,x,j=>match Nat.blt j (wid a)with|true=>cell a x.1 j|false=>cell b x.2 (j-wid a)
 | .list a,x,_=>.list (wid a) (.dat a x)
 | .part,x,j=>match j with
  | 0=>.str x.type|1=>.list 2 (.dat (.pair .str .str) x.params)|2=>.str x.enc|3=>.bool x.attach
  | 4=>.int .i64 x.head|5=>.int .i64 x.frm|6=>.int .i64 x.til|_=>.list 8 (.dat .part x.kids)
 | .node,x,j=>match j with
  | 0=>.int .i64 x.kind|1=>.int .i64 x.num|2=>.str x.text|3=>.list 1 (.dat .str x.keys)|_=>.list 5 (.dat .node x.kids)
 | .box a,x,_=>.box (wid a) (cell a x)
def Rows.n:Rows->Nat
 | .fn n _=>n
 | .dat _ l=>l.length
def Rows.f:Rows->Nat->Nat->PV
 | .fn _ f=>f
 | .dat c l=>fun i j=>cell c (l.getD i (dfl c)) j
def zph:Value->Bool
 | .pointer none|.map none|.chan none|.nilFunc|.nilIface|.float _ _=>true
 | _=>false
def zat(c:UInt8):Value:=.int .u8 (c.toNat:Int)
inductive zR(M:Mem):PV->Value->Prop
 | bool (b:Bool):zR M (.bool b) (.bool b)
 | int (k:IntKind) (n:Int) (h:k.has n):zR M (.int k n) (.int k n)
 | str (l:List UInt8) (h:l.length<=maxLen):zR M (.str l) (.string ⟨l.toArray⟩)
 | plain (v:Value) (h:zph v=true):zR M (.plain v) v
 | nil:zR M .nil (.slice none 0 0)
 | bytesNil:zR M (.bytes []) (.slice none 0 0)
 | bytes (l:List UInt8) (b off cap:Nat) (hm:l.length<=maxLen) (hc:l.length<=cap)
  (h:∀ i c,l[i]?=some c->M b (off+i)=some (zat c)):zR M (.bytes l) (.slice (some ⟨b,off,none⟩) l.length cap)
 | listNil (k:Nat) (R:Rows) (h0:R.n=0):zR M (.list k R) (.slice none 0 0)
 | listZero (k:Nat) (R:Rows) (a:Addr) (h0:R.n=0):zR M (.list k R) (.slice (some a) 0 0)
 | list (k:Nat) (R:Rows) (b off cap:Nat) (g:Nat->Nat->Value) (hm:R.n<=maxLen) (hc:R.n<=cap)
  (hM:∀ i j,i<R.n->j<k->M b (off+i*k+j)=some (g i j))
  (h:∀ i j,i<R.n->j<k->zR M (R.f i j) (g i j)):zR M (.list k R) (.slice (some ⟨b,off,none⟩) R.n cap)
 | box (n:Nat) (f:Nat->PV) (b off:Nat) (g:Nat->Value)
  (hM:∀ j,j<n->M b (off+j)=some (g j))
  (h:∀ j,j<n->zR M (f j) (g j)):zR M (.box n f) (.pointer (some ⟨b,off,none⟩))
def MLe(M M':Mem):Prop:=∀ b o v,M b o=some v->M' b o=some v
theorem MLe.refl(M:Mem):MLe M M:=fun _ _ _ h=>h
theorem MLe.trans{A B C:Mem}(h:MLe A B)(k:MLe B C):MLe A C:=fun b o v x=>k b o v (h b o v x)
theorem zR.mono{M M':Mem}(hM:MLe M M'){x:PV}{v:Value}(h:zR M x v):zR M' x v:=by
 induction h with
 | bool b=>exact .bool b
 | int k n h=>exact .int k n h
 | str l h=>exact .str l h
 | plain v h=>exact .plain v h
 | nil=>exact .nil
 | bytesNil=>exact .bytesNil
 | bytes l b off cap hm hc h=>exact .bytes l b off cap hm hc fun i c hi=>hM _ _ _ (h i c hi)
 | listNil k R h0=>exact .listNil k R h0
 | listZero k R a h0=>exact .listZero k R a h0
 | list k R b off cap g hm hc h1 h2 ih=>exact .list k R b off cap g hm hc (fun i j a c=>hM _ _ _ (h1 i j a c)) ih
 | box n f b off g h1 h2 ih=>exact .box n f b off g (fun j a=>hM _ _ _ (h1 j a)) ih
theorem zR.oneCell{M:Mem}{x:PV}{v:Value}(h:zR M x v):v.oneCell'=true:=by
 cases h <;> try rfl
 rename_i h;cases v <;> first|rfl|simp[zph]at h
inductive G where
 | cell (b:Nat)
 | arr (a:Option Nat) (k n cap:Nat)
def G.blk:G->Option Nat
 | .cell b=>some b
 | .arr a _ _ _=>a
inductive AV where
 | any
 | p (x:PV)
 | ref (id off:Nat)
 | arr (id:Nat)
 | aptr (id i off:Nat)
 | mref (id:Nat)
 | clo (fn:Fn) (fs cs:List AV)
 | agg (cs:List AV)
 | tup (cs:List AV)
 | gd (c:Bool) (x:AV)
 deriving Inhabited
def yX(a:Option Nat)(n cap:Nat):Value:=.slice (a.map fun g=>⟨g,0,none⟩) n cap
inductive zp(γ:Nat->Option G)(M:Mem):AV->Value->Prop
 | any (v:Value):zp γ M .any v
 | p (x:PV) (v:Value) (h:zR M x v):zp γ M (.p x) v
 | ref (id off b:Nat) (h:γ id=some (.cell b)):zp γ M (.ref id off) (.pointer (some ⟨b,off,none⟩))
 | arr (id:Nat) (a:Option Nat) (k n cap:Nat) (h:γ id=some (.arr a k n cap)):zp γ M (.arr id) (yX a n cap)
 | aptr (id i off g k n cap:Nat) (h:γ id=some (.arr (some g) k n cap)):zp γ M (.aptr id i off) (.pointer (some ⟨g,i*k+off,none⟩))
 | mref (id b:Nat) (h:γ id=some (.cell b)):zp γ M (.mref id) (.map (some b))
 | clo (fn:Fn) (fs cs:List AV) (vf vc:Array Value) (hf:vf.size=fs.length) (hc:vc.size=cs.length)
  (h1:∀ i,i<fs.length->zp γ M (fs.getD i .any) (vf.getD i undef))
  (h2:∀ i,i<cs.length->zp γ M (cs.getD i .any) (vc.getD i undef)):zp γ M (.clo fn fs cs) (.func fn vf vc)
 | agg (cs:List AV) (vs:Array Value) (hs:vs.size=cs.length)
  (h:∀ i,i<cs.length->zp γ M (cs.getD i .any) (vs.getD i undef)):zp γ M (.agg cs) (.agg vs)
 | tup (cs:List AV) (vs:Array Value) (hs:vs.size=cs.length)
  (h:∀ i,i<cs.length->zp γ M (cs.getD i .any) (vs.getD i undef)):zp γ M (.tup cs) (.tuple vs)
 | gd (c:Bool) (x:AV) (v:Value) (h:c=true->zp γ M x v) (h0:c=false->v=undef):zp γ M (.gd c x) v
def GLe(γ γ':Nat->Option G):Prop:=∀ id g,γ id=some g->γ' id=some g
theorem GLe.refl(γ:Nat->Option G):GLe γ γ:=fun _ _ h=>h
theorem GLe.trans{A B C:Nat->Option G}(h:GLe A B)(k:GLe B C):GLe A C:=fun b o x=>k b o (h b o x)
theorem zp.mono{γ γ':Nat->Option G}{M M':Mem}(hγ:GLe γ γ')(hM:MLe M M'){x:AV}{v:Value}(h:zp γ M x v):zp γ' M' x v:=by
 induction h with
 | any v=>exact .any v
 | p x v h=>exact .p x v (h.mono hM)
 | ref id off b h=>exact .ref id off b (hγ _ _ h)
 | arr id a k n cap h=>exact .arr id a k n cap (hγ _ _ h)
 | aptr id i off g k n cap h=>exact .aptr id i off g k n cap (hγ _ _ h)
 | mref id b h=>exact .mref id b (hγ _ _ h)
 | clo fn fs cs vf vc hf hc _ _ ih1 ih2=>exact .clo fn fs cs vf vc hf hc ih1 ih2
 | agg cs vs hs _ ih=>exact .agg cs vs hs ih
 | tup cs vs hs _ ih=>exact .tup cs vs hs ih
 | gd c x v _ h0 ih=>exact .gd c x v ih h0
inductive AObj where
 | cells (cs:List AV)
 | barr (e:TypeId) (mu:Bool) (l:List UInt8)
 | larr (e:TypeId) (mu:Bool) (k:Nat) (R:Rows)
 | bcv (e:TypeId) (l:List UInt8)
 | bldr (T:TypeId) (a:AV)
 | raw (o:Obj)
 | mp (e:Ec) (l:List (Int×Elt e))
instance:Inhabited AObj:=⟨.raw default⟩
def zgB(M:Mem)(e:Ec):List MapEntry->List (Int×Elt e)->Prop
 | [],[]=>True
 | x::xs,y::ys=>x.key=.int .i64 y.1/\zR M (cell e y.2 0) x.val/\zgB M e xs ys
 | _,_=>False
theorem zgB.mono{M M':Mem}(hM:MLe M M'){e:Ec}:∀ {es:List MapEntry} {l:List (Int×Elt e)},zgB M e es l->zgB M' e es l
 | [],[],_=>trivial
 | _::_,_::_,h=>⟨h.1,h.2.1.mono hM,h.2.2.mono hM⟩
structure zb1(M:Mem)(w:World)(e:TypeId)(mu:Bool)(k n:Nat)(vs:List Value)(a:Option Nat)(cap:Nat):Prop where
 own:w.ownsRow 0 e k (yX a n cap) n vs
 one:∀ v ∈ vs,v.oneCell'=true
 len:n<=maxLen
 mem:∀ g,a=some g->if mu then ∀ o,M g o=none else ∀ o,M g o=vs[o]?
def OM(γ:Nat->Option G)(M:Mem)(w:World)(id:Nat):AObj->Prop
 | .cells cs=>∃ b vs e,γ id=some (.cell b)/\w.heap[b]?=some (.cells vs e (0,0))/\vs.size=cs.length/\
  (∀ j,j<cs.length->zp γ M (cs.getD j .any) (vs.getD j undef)/\(vs.getD j undef).oneCell'=true)/\(∀ o,M b o=none)
 | .barr e mu l=>∃ a cap,γ id=some (.arr a 1 l.length cap)/\zb1 M w e mu 1 l.length (l.map zat) a cap
 | .larr e mu k R=>∃ a cap vs,γ id=some (.arr a k R.n cap)/\(∀ i j,i<R.n->j<k->∃ v,vs[i*k+j]?=some v/\zR M (R.f i j) v)/\
  zb1 M w e mu k R.n vs a cap
 | .bcv e l=>∃ g cur,γ id=some (.arr (some g) 1 l.length cur.size)/\w.heap[g]?=some (.cells cur e (cur.size,cur.size+1))/\cur.toList.take l.length=l.map zat/\
  l.length<=cur.size/\l.length<=maxLen/\(∀ o,M g o=none)
 | .bldr T a=>∃ b v0 v1,γ id=some (.cell b)/\w.heap[b]?=some (.cells #[v0,v1] T (0,0))/\(v0=.pointer none\/v0=.pointer (some ⟨b,0,none⟩))/\zp γ M a v1/\v1.oneCell'=true/\(∀ o,M b o=none)
 | .raw o=>∃ b,γ id=some (.cell b)/\w.heap[b]?=some o/\(∀ q,M b q=none)
 | .mp e l=>∃ b es clock,γ id=some (.cell b)/\w.heap[b]?=some (.map es clock)/\zgB M e es.toList l/\(∀ q,M b q=none)
structure S where
 sl:Nat->AV
 ob:Nat->Option AObj
 us:Nat->Bool
structure Ctx where
 w0:World
 M0:Mem
 own:Nat->Prop
 nt:Nat
 g0:Nat->Option G
 rd:Option Nat:=none
 dl:List Deferred:=[]
def GOk(M:Mem):Prop:=∀ g,g ∈ zTM->∃ m,M g 0=some (.int .i64 m)
theorem GOk.mono{M M':Mem}(h:GOk M)(hM:MLe M M'):GOk M':=fun g hg=>let ⟨m,hm⟩:=h g hg;⟨m,hM _ _ _ hm⟩
structure MOk(M:Mem)(w:World):Prop where
 cell:∀ b o v,M b o=some v->w.cell? ⟨b,o,none⟩=some v
 good:GOk M
def TOk(w:World):Prop:=∀ x ∈ zQH,∃ e m,w.heap[x.1]?=some (.cells (x.2.map fun z=>Value.int .u64 z).toArray e m)
def ztl(b:Nat):Prop:=∃ x ∈ zQH,x.1=b
theorem TOk.lt{w:World}(h:TOk w){b:Nat}(hb:ztl b):b<w.heap.size:=by
 obtain⟨x,hx,rfl⟩:=hb
 obtain⟨e,m,hh⟩:=h x hx
 exact(Array.getElem?_eq_some_iff.1 hh).1
theorem TOk.keep{w w':World}(h:TOk w)(hk:∀ b,b<w.heap.size->ztl b->w'.heap[b]?=w.heap[b]?):TOk w':=fun x hx=>by
 obtain⟨e,m,hh⟩:=h x hx
 exact⟨e,m,(hk x.1 (h.lt ⟨x,hx,rfl⟩) ⟨x,hx,rfl⟩).trans hh⟩
structure TabC(C:Ctx):Prop where
 ok:TOk C.w0
 own:∀ b,C.own b->¬ ztl b
structure WOk(M:Mem)(w:World):Prop extends MOk M w where
 tabs:TOk w
instance {M:Mem}{w:World}:CoeFun (MOk M w) (fun _=>∀ b o v,M b o=some v->w.cell? ⟨b,o,none⟩=some v):=⟨MOk.cell⟩
instance {M:Mem}{w:World}:CoeFun (WOk M w) (fun _=>∀ b o v,M b o=some v->w.cell? ⟨b,o,none⟩=some v):=⟨fun h=>h.cell⟩
instance {M:Mem}{w:World}:CoeOut (WOk M w) (MOk M w):=⟨WOk.toMOk⟩
structure Fr(C:Ctx)(w:World):Prop where
 os:w.os=C.w0.os
 tape:w.tape=C.w0.tape
 output:w.output=C.w0.output
 size:C.w0.heap.size<=w.heap.size
 block:∀ b,b<C.w0.heap.size->¬ C.own b->w.heap[b]?=C.w0.heap[b]?
 tab:TabC C
theorem Fr.tabs{C:Ctx}{w:World}(h:Fr C w):TOk w:=h.tab.ok.keep fun b hb ht=>h.block b hb fun ho=>h.tab.own b ho ht
structure StG(C:Ctx)(γ:Nat->Option G)(M:Mem)(s:S)(a:Act)(w:World):Prop where
 sl:∀ t,zp γ M (s.sl t) (a.tmps.getD t undef)
 ob:∀ id o,s.ob id=some o->OM γ M w id o
 us:∀ id,s.us id=false->γ id=none
 sep:∀ id id' g g' b,s.ob id≠none->s.ob id'≠none->γ id=some g->γ id'=some g'->g.blk=some b->g'.blk=some b->id=id'
 lo:∀ id g b,s.ob id≠none->γ id=some g->g.blk=some b->(C.w0.heap.size<=b\/C.own b)/\b<w.heap.size
 mem:MOk M w
 le:MLe C.M0 M
 new:∀ b,b<C.w0.heap.size->¬ C.own b->M b=C.M0 b
 fr:Fr C w
 df:a.defers=C.dl
 nt:a.tmps.size=C.nt
 gl:GLe C.g0 γ
theorem StG.wok{C:Ctx}{γ:Nat->Option G}{M:Mem}{s:S}{a:Act}{w:World}(h:StG C γ M s a w):WOk M w:=⟨h.mem,h.fr.tabs⟩
theorem StG.notab{C:Ctx}{γ:Nat->Option G}{M:Mem}{s:S}{a:Act}{w:World}(h:StG C γ M s a w){id:Nat}{g:G}{b:Nat}(h1:s.ob id≠none)(h2:γ id=some g)(h3:g.blk=some b):¬ ztl b:=fun ht=>by
 rcases(h.lo id g b h1 h2 h3).1 with hb|hb
 .have:=h.fr.tab.ok.lt ht;omega
 .exact h.fr.tab.own b hb ht
def St(C:Ctx)(s:S)(a:Act)(w:World):Prop:=∃ γ M,StG C γ M s a w
def upd{α:Type}(f:Nat->α)(i:Nat)(x:α):Nat->α:=fun j=>match Nat.beq j i with|true=>x|false=>f j
theorem zw{α:Type}(f:Nat->α)(i:Nat)(x:α):upd f i x i=x:=by simp[upd]
theorem zC{α:Type}(f:Nat->α){i j:Nat}(x:α)(h:j≠i):upd f i x j=f j:=by
 unfold upd
 cases hb:Nat.beq j i with
 | true=>exact absurd (Nat.eq_of_beq_eq_true hb) h
 | false=>rfl
end Go.Am
/-! Operations that touch no memory. -/
namespace Go.Am
open Go Go.RowKit
@[reducible] def zh (n:Int):Prop:=-9223372036854775808<=n/\n<=9223372036854775807
@[reducible] def zaW (n:Nat):Prop:=n<=9223372036854775807
theorem zd6{n:Int}(h:zh n):IntKind.i64.has n:=by
 unfold zh at h;simp only[IntKind.has,IntKind.min,IntKind.max,IntKind.signed,IntKind.bits];simp;omega
theorem zcl(k:IntKind)(n:Int):k.has (k.wrap n):=by
 cases k <;> simp[IntKind.has,IntKind.wrap,IntKind.min,IntKind.max,IntKind.signed,IntKind.bits] <;> (try split) <;> omega
theorem zdS{k:IntKind}{n:Int}(h:k.has n):k.wrap n=n:=by
 cases k <;> simp[IntKind.has,IntKind.wrap,IntKind.min,IntKind.max,IntKind.signed,IntKind.bits]at h ⊢ <;> (try split) <;> omega
theorem zAM(c:UInt8):IntKind.u8.has (c.toNat:Int):=by
 have:=c.toNat_lt;simp[IntKind.has,IntKind.min,IntKind.max,IntKind.signed,IntKind.bits];omega
def zO(op:BinOp)(k:IntKind)(x y:Int):Int:=
 match op with
 | .and=>k.wrap ((BitVec.ofInt k.bits x&&& BitVec.ofInt k.bits y).toNat)
 | .or=>k.wrap ((BitVec.ofInt k.bits x||| BitVec.ofInt k.bits y).toNat)
 | .xor=>k.wrap ((BitVec.ofInt k.bits x ^^^ BitVec.ofInt k.bits y).toNat)
 | .andNot=>k.wrap ((BitVec.ofInt k.bits x&&& ~~~BitVec.ofInt k.bits y).toNat)
 | _=>0
def zDB:IntKind->Bool|.i64=>true|_=>false
@[reducible] def okP:Option Prop->Prop
 | none=>True
 | some p=>p
def zgt(k:IntKind)(n:Int):PV×Option Prop:=
 match zDB k with
 | true=>(.int k n,some (zh n))
 | false=>(.int k (k.wrap n),none)
def zTs:IntKind->Bool|.u64=>false|_=>true
def zuE(a b:IntKind):Bool:=
 match a,b with
 | .i8,.i8|.i16,.i16|.i32,.i32|.i64,.i64|.u8,.u8|.u16,.u16|.u32,.u32|.u64,.u64=>true
 | _,_=>false
theorem zlP{a b:IntKind}(h:zuE a b=true):a=b:=by cases a <;> cases b <;> first|rfl|cases h
def zvk(op:BinOp)(k:IntKind)(a b:Int):Option (PV×Option Prop):=
 match op with
 | .add=>some (zgt k (a+b))
 | .sub=>some (zgt k (a-b))
 | .mul=>some (zgt k (a*b))
 | .quo=>match zDB k with
  | true=>some (.int k (a.tdiv b),some (b≠0/\zh (a.tdiv b)))
  | false=>some (.int k (k.wrap (a.tdiv b)),some (b≠0))
 | .rem=>some (.int k (a.tmod b),some (b≠0))
 | .and=>some (.int k (zO .and k a b),none)
 | .or=>some (.int k (zO .or k a b),none)
 | .xor=>some (.int k (zO .xor k a b),none)
 | .andNot=>some (.int k (zO .andNot k a b),none)
 | .eql=>some (.bool (a==b),none)
 | .neq=>some (.bool (a != b),none)
 | .lss=>some (.bool (decide (a<b)),none)
 | .leq=>some (.bool (decide (a<=b)),none)
 | .gtr=>some (.bool (decide (a>b)),none)
 | .geq=>some (.bool (decide (a>=b)),none)
 | _=>none
def zvj(op:BinOp)(a b:List UInt8):Option (PV×Option Prop):=
 match op with
 | .add=>some (.str (a++b),some (zaW (a.length+b.length)))
 | .eql=>some (.bool (a==b),none)
 | .neq=>some (.bool (a != b),none)
 | .lss=>some (.bool (Op.bytesLess a b),none)
 | .leq=>some (.bool (Op.bytesLess a b||a==b),none)
 | .gtr=>some (.bool (!(Op.bytesLess a b||a==b)),none)
 | .geq=>some (.bool (!(Op.bytesLess a b)),none)
 | _=>none
def zya(op:BinOp)(x y:PV):Option (PV×Option Prop):=
 match x,y with
 | .int k a,.int k' b=>
  match op with
  | .shl=>some (.int k (k.wrap (a*2^(min b.toNat k.bits))),some (0<=b))
  | .shr=>some (.int k (a.fdiv (2^(min b.toNat k.bits))),some (0<=b))
  | op=>match zuE k k' with|true=>zvk op k a b|false=>none
 | .str a,.str b=>zvj op a b
 | .bool a,.bool b=>match op with
  | .eql=>some (.bool (a==b),none)
  | .neq=>some (.bool (a != b),none)
  | _=>none
 | _,_=>none
theorem zjJ(a b:Int)(h:0<=a):a % b<=a:=by
 obtain⟨m,rfl⟩:=Int.eq_ofNat_of_zero_le h
 have key:∀ n:Nat,(m:Int) % (n:Int)<=(m:Int):=fun n=>by
  have:=Nat.mod_le m n
  have e:((m % n:Nat):Int)=(m:Int) % (n:Int):=Int.natCast_emod m n
  omega
 rcases Int.natAbs_eq b with hb|hb
 .rw [hb];exact key _
 .rw [hb,Int.emod_neg];exact key _
theorem zH7{k:IntKind}{a b:Int}(ha:k.has a)(_hb:k.has b)(_h0:b≠0):k.has (a.tmod b):=by
 have h1:a.tmod b=a-b*(a.tdiv b):=by have:=Int.mul_tdiv_add_tmod a b;omega
 rcases Int.le_total 0 a with h|h
 .have h2:=Int.tmod_nonneg b h
  have h3:a.tmod b<=a:=by
   rw[Int.tmod_eq_emod_of_nonneg h];exact zjJ a b h
  simp only[IntKind.has]at *
  have h4:k.min<=0:=by cases k <;> simp[IntKind.min,IntKind.signed,IntKind.bits]
  omega
 .have h2:a.tmod b<=0:=by
   have:=Int.tmod_nonneg b (a:=-a) (by omega)
   rw[Int.neg_tmod]at this;omega
  have h3:a<=a.tmod b:=by
   have hx:(-a).tmod b<=-a:=by
    rw[Int.tmod_eq_emod_of_nonneg (by omega:(0:Int)<=-a)];exact zjJ (-a) b (by omega)
   rw[Int.neg_tmod]at hx;omega
  simp only[IntKind.has]at *
  have h4:0<=k.max:=by cases k <;> simp[IntKind.max,IntKind.signed,IntKind.bits]
  omega
theorem zKC{k:IntKind}{a:Int}(ha:k.has a)(n:Nat):k.has (a.fdiv (2^n)):=by
 have hp:(0:Int)<2^n:=Int.pow_pos (by decide)
 have e:a.fdiv (2^n)=a/(2^n):=Int.fdiv_eq_ediv_of_nonneg a (Int.le_of_lt hp)
 rw[e]
 simp only[IntKind.has]at *
 have h4:k.min<=0:=by cases k <;> simp[IntKind.min,IntKind.signed,IntKind.bits]
 have h5:0<=k.max:=by cases k <;> simp[IntKind.max,IntKind.signed,IntKind.bits]
 rcases Int.le_total 0 a with h|h
 .have h1:0<=a/2^n:=Int.ediv_nonneg h (Int.le_of_lt hp)
  have h2:a/2^n<=a:=Int.ediv_le_self _ h
  omega
 .have h1:a/2^n<=0:=by
   have:=Int.ediv_le_ediv hp h;simpa using this
  have h2:a<=a/2^n:=by
   rw[Int.le_ediv_iff_mul_le hp]
   have:a*2^n<=a*1:=Int.mul_le_mul_of_nonpos_left h (by omega)
   omega
  omega
theorem zhn{M:Mem}{k:IntKind}{n:Int}(h:okP (zgt k n).2):zR M (zgt k n).1 (.int k (k.wrap n)):=by
 unfold zgt at *
 cases k <;> simp only[zDB]at h ⊢ <;> first
  | (rw[zdS (zd6 h)];exact .int _ _ (zd6 h))
  | exact .int _ _ (zcl _ _)
variable {P:Program}
theorem zhg(op:BinOp)(k:IntKind)(a b:Int)(hop:op=.and\/op=.or\/op=.xor\/op=.andNot)(w:World):
 (Op.intBits op k a b).run P w=.ok (.int k (zO op k a b)) w:=by
 rcases hop with rfl|rfl|rfl|rfl <;> simp[Op.intBits,zO]
theorem zrM{M:Mem}{op:BinOp}{k:IntKind}{a b:Int}{r:PV}{ok:Option Prop}(h:zvk op k a b=some (r,ok))(hok:okP ok)
 (ha:k.has a) (hb:k.has b) (t:TypeId) (w:World):∃ v,(binOp op t (.int k a) (.int k b)).run P w=.ok v w/\zR M r v:=by
 cases op <;> simp only[zvk,Option.some.injEq,reduceCtorEq]at h
 case add=>cases hx:zgt k (a+b);rw[hx]at h;cases h;have:=zhn (M:=M) (k:=k) (n:=a+b) (by rw[hx];exact hok);rw[hx]at this;exact⟨_,by simp[binOp,Op.intArith],this⟩
 case sub=>cases hx:zgt k (a-b);rw[hx]at h;cases h;have:=zhn (M:=M) (k:=k) (n:=a-b) (by rw[hx];exact hok);rw[hx]at this;exact⟨_,by simp[binOp,Op.intArith],this⟩
 case mul=>cases hx:zgt k (a*b);rw[hx]at h;cases h;have:=zhn (M:=M) (k:=k) (n:=a*b) (by rw[hx];exact hok);rw[hx]at this;exact⟨_,by simp[binOp,Op.intArith],this⟩
 case quo=>
  cases hk:zDB k <;> rw[hk]at h <;> cases h
  .exact ⟨_,by simp[binOp,Op.intDiv,hok],.int _ _ (zcl _ _)⟩
  .have:k=.i64:=by cases k <;> first|rfl|cases hk
   subst this
   exact⟨.int .i64 (a.tdiv b),by simp[binOp,Op.intDiv,hok.1,zdS (zd6 hok.2)],.int _ _ (zd6 hok.2)⟩
 case rem=>cases h;exact⟨_,by simp[binOp,Op.intDiv,hok],.int _ _ (zH7 ha hb hok)⟩
 case and=>cases h;exact⟨_,by simp only[binOp,ne_eq,not_true_eq_false,if_false];exact zhg .and k a b (by simp) w,.int _ _ (zcl _ _)⟩
 case or=>cases h;exact⟨_,by simp only[binOp,ne_eq,not_true_eq_false,if_false];exact zhg .or k a b (by simp) w,.int _ _ (zcl _ _)⟩
 case xor=>cases h;exact⟨_,by simp only[binOp,ne_eq,not_true_eq_false,if_false];exact zhg .xor k a b (by simp) w,.int _ _ (zcl _ _)⟩
 case andNot=>cases h;exact⟨_,by simp only[binOp,ne_eq,not_true_eq_false,if_false];exact zhg .andNot k a b (by simp) w,.int _ _ (zcl _ _)⟩
 all_goals (cases h;exact⟨_,by simp[binOp,Op.intCmp],.bool _⟩)
theorem zrL{M:Mem}{op:BinOp}{a b:List UInt8}{r:PV}{ok:Option Prop}(h:zvj op a b=some (r,ok))(hok:okP ok)
 (t:TypeId) (w:World):∃ v,(binOp op t (.string ⟨a.toArray⟩) (.string ⟨b.toArray⟩)).run P w=.ok v w/\zR M r v:=by
 have hta:∀ l:List UInt8,(⟨l.toArray⟩:ByteArray).toList=l:=fun l=>by simp[ByteArray.toList_eq]
 cases op <;> simp only[zvj,Option.some.injEq,reduceCtorEq]at h <;> cases h
 case add=>
  refine⟨.string ⟨(a++b).toArray⟩,?_,.str _ (by simpa[maxLen]using hok)⟩
  have hs:¬ (((⟨a.toArray⟩:ByteArray).size+(⟨b.toArray⟩:ByteArray).size:Nat):Int)>IntKind.i64.max:=by
   simp[IntKind.max,IntKind.signed,IntKind.bits,ByteArray.size]
   unfold zaW at hok;omega
  have he:(⟨a.toArray⟩:ByteArray)++(⟨b.toArray⟩:ByteArray)=⟨(a++b).toArray⟩:=by
   apply ByteArray.ext;simp
  simp only[binOp,Op.stringOp,hs,if_false,he]
  rfl
 all_goals exact⟨_,by simp only[binOp,Op.stringOp,hta];rfl,.bool _⟩
theorem zR.int_inv{M:Mem}{k:IntKind}{n:Int}{v:Value}(h:zR M (.int k n) v):v=.int k n/\k.has n:=by cases h;exact⟨rfl,by assumption⟩
theorem zR.str_inv{M:Mem}{l:List UInt8}{v:Value}(h:zR M (.str l) v):v=.string ⟨l.toArray⟩/\l.length<=maxLen:=by cases h;exact⟨rfl,by assumption⟩
theorem zR.bool_inv{M:Mem}{b:Bool}{v:Value}(h:zR M (.bool b) v):v=.bool b:=by cases h;rfl
theorem zmp(a b:Bool)(t:TypeId)(w:World)(ht:P.underlying t=some .bool):
 (Op.equal t (.bool a) (.bool b)).run P w=.ok (a==b) w:=by
 have key:∀ d,(Op.equalIn (d+1) t (.bool a) (.bool b)).run P w=.ok (a==b) w:=fun d=>by simp[Op.equalIn,run_underlying ht]
 exact key 9999
def zhe(P:Program)(t:TypeId):Bool:=match P.underlying t with|some .bool=>true|_=>false
end Go.Am
/-! The evaluation of an operation that touches no memory, and its soundness. -/
namespace Go.Am
open Go Go.RowKit
def ziX:Value->AV
 | .bool b=>.p (.bool b)
 | .int k n=>match decide (k.min<=n/\n<=k.max)with|true=>.p (.int k n)|false=>.any
 | .string s=>match Nat.ble s.data.toList.length 9223372036854775807 with|true=>.p (.str s.data.toList)|false=>.any
 | .slice none 0 0=>.p .nil
 | v=>match zph v with|true=>.p (.plain v)|false=>.any
def aev(s:Nat->AV):Operand->AV
 | .tmp t=>s t
 | .const v=>ziX v
 | .global _=>.any
 | .func f=>.clo (.func f) [] []
theorem zx8(γ:Nat->Option G)(M:Mem)(v:Value):zp γ M (ziX v) v:=by
 have plain:zp γ M (match zph v with|true=>AV.p (.plain v)|false=>.any) v:=by
  cases h:zph v
  .exact .any _
  .exact .p _ _ (.plain _ h)
 cases v with
 | bool b=>exact .p _ _ (.bool b)
 | int k n=>
  show zp γ M (match decide (k.min<=n/\n<=k.max)with|true=>.p (.int k n)|false=>.any) _
  split
  .rename_i h;exact .p _ _ (.int _ _ (show k.has n from of_decide_eq_true (p:=k.min<=n/\n<=k.max) h))
  .exact .any _
 | string s=>
  show zp γ M (match Nat.ble s.data.toList.length 9223372036854775807 with|true=>.p (.str s.data.toList)|false=>.any) _
  split
  .rename_i h
   have:=zR.str (M:=M) s.data.toList (by unfold maxLen;exact Nat.le_of_ble_eq_true h)
   exact .p _ _ this
  .exact .any _
 | slice a l c=>
  unfold ziX
  split
  .rename_i h;cases h
  .rename_i h;cases h
  .rename_i h;cases h
  .rename_i h;cases h;exact .p _ _ .nil
  .exact plain
 | _=>exact plain
theorem zed{γ:Nat->Option G}{M:Mem}{s:Nat->AV}{a:Act}(h:∀ t,zp γ M (s t) (a.tmps.getD t undef))(x:Operand):
 zp γ M (aev s x) (a.eval x):=by
 cases x with
 | tmp t=>exact h t
 | const v=>exact zx8 γ M v
 | global g=>exact .any _
 | func f=>exact .clo (.func f) [] [] #[] #[] rfl rfl (fun i hi=>absurd hi (Nat.not_lt_zero _)) (fun i hi=>absurd hi (Nat.not_lt_zero _))
def AV.one:AV->Bool
 | .p _|.ref _ _|.arr _|.aptr _ _ _|.mref _|.clo _ _ _=>true
 | _=>false
theorem zp.oneCell{γ:Nat->Option G}{M:Mem}{x:AV}{v:Value}(h:zp γ M x v)(ho:x.one=true):v.oneCell'=true:=by
 cases h <;> first|rfl|cases ho|skip
 case p h=>exact h.oneCell
def AV.cells:AV->List AV
 | .agg cs=>cs
 | x=>[x]
variable {P:Program}
def znV(P:Program)(t:TypeId)(f:Nat):Option Field:=
 match P.underlying t with
 | some (.struct fs)=>fs[f]?
 | _=>none
def zlR(P:Program)(t:TypeId):Option Bool:=
 match P.underlying t with
 | some (.struct _)=>some true
 | some (.array _ _)=>some true
 | some _=>some false
 | none=>none
def zaH(P:Program)(t:TypeId):Option Nat:=(P.info? t).map (·.size)
theorem zg1{t:TypeId}{b:Bool}(h:zlR P t=some b)(w:World):(isAgg t).run P w=.ok b w:=by
 unfold zlR at h
 cases hu:P.underlying t with
 | none=>rw[hu]at h;cases h
 | some d=>
  rw[hu]at h
  cases d <;> cases h <;> simp[isAgg,run_underlying hu]
theorem yu{t:TypeId}{n:Nat}(h:zaH P t=some n)(w:World):(sizeOf t).run P w=.ok n w:=by
 unfold zaH at h
 cases hi:P.info? t with
 | none=>rw[hi]at h;cases h
 | some i=>rw[hi]at h;cases h;simp[sizeOf,typeInfo,hi]
def apart(P:Program)(t:TypeId)(cs:List AV)(off:Nat):Option AV:=
 match zlR P t,zaH P t with
 | some true,some n=>match Nat.ble (off+n) cs.length with
  | true=>some (.agg ((cs.drop off).take n))
  | false=>none
 | some false,some _=>match Nat.blt off cs.length with
  | true=>some (cs.getD off .any)
  | false=>none
 | _,_=>none
def zKA(s d:IntKind):Bool:=
 match s,d with
 | .u8,.i64|.u16,.i64|.u32,.i64|.i8,.i64|.i16,.i64|.i32,.i64|.i64,.i64|.u8,.i32|.u8,.u8|.u8,.u32|.u8,.u64|.u8,.u16|.i32,.i32|.u64,.u64|.u32,.u32|.u32,.u64=>true
 | _,_=>false
theorem zKz{s d:IntKind}{n:Int}(h:zKA s d=true)(hn:s.has n):d.has n:=by
 cases s <;> cases d <;> first
  | (exact Bool.noConfusion h)
  | (simp[IntKind.has,IntKind.min,IntKind.max,IntKind.signed,IntKind.bits]at hn ⊢;omega)
def zLj(P:Program)(d:TypeId)(x:PV):Option PV:=
 match P.underlying d,x with
 | some (.int k),.int s n=>match zKA s k with
  | true=>some (.int k n)
  | false=>some (.int k (k.wrap n))
 | some .string,.str l=>some (.str l)
 | _,_=>none
def yK(P:Program)(t:TypeId):Bool:=match P.underlying t with|some (.slice _)=>true|_=>false
def zaY(P:Program)(t:TypeId):Bool:=match P.underlying t with|some .string=>true|_=>false
def zdn(P:Program)(t:TypeId):Option TypeId:=match P.underlying t with|some (.slice e)=>some e|_=>none
theorem yG{t:TypeId}(h:yK P t=true):∃ e,P.underlying t=some (.slice e):=by
 unfold yK at h;split at h
 .exact ⟨_,by assumption⟩
 .cases h
theorem zby{t:TypeId}(h:zaY P t=true):P.underlying t=some .string:=by
 unfold zaY at h;split at h
 .assumption
 .cases h
theorem zaA{t e:TypeId}(h:zdn P t=some e):P.underlying t=some (.slice e):=by
 unfold zdn at h;split at h
 .cases h;assumption
 .cases h
def yV(b:Bool){α:Type}(x:α):Option α:=match b with|true=>some x|false=>none
def zLe(l:List UInt8)(lo hi:Int):AV×Option Prop:=
 (.p (.str ((l.take hi.toNat).drop lo.toNat)),some (0<=lo/\lo<=hi/\hi<=(l.length:Int)))
def plen:PV->Option Nat
 | .str l=>some l.length
 | .bytes l=>some l.length
 | .list _ R=>some R.n
 | .nil=>some 0
 | _=>none
def amin:List AV->Option Int
 | []=>none
 | [.p (.int .i64 a)]=>some a
 | _=>none
def zjV(x:Int):List AV->Option Int
 | []=>some x
 | .p (.int .i64 y)::r=>zjV (if y<x then y else x) r
 | _=>none
def zjW(x:Int):List AV->Option Int
 | []=>some x
 | .p (.int .i64 y)::r=>zjW (if y>x then y else x) r
 | _=>none
def ev1:List AV->Option (AV×Option Prop)
 | [x]=>some (x,none)
 | _=>none
def zd3:Operand->Option Bool
 | .const (.bool b)=>some b
 | _=>none
def zKK(c:Bool):AV->Option (AV×Option Prop)
 | .gd c' (.p (.bool a))=>some (.p (.bool (c&&a)),some (c=true->c'=true))
 | .p (.bool a)=>some (.p (.bool (c&&a)),none)
 | _=>none
def zSB(c:Bool):AV->Option (AV×Option Prop)
 | .gd c' (.p (.bool a))=>some (.p (.bool (c||a)),some (c=false->c'=true))
 | .p (.bool a)=>some (.p (.bool (c||a)),none)
 | _=>none
def zKF(x y:Operand):List AV->Option (AV×Option Prop)
 | [.p (.bool c),a,b]=>match zd3 y with
  | some false=>zKK c a
  | _=>match zd3 x with
   | some true=>zSB c b
   | _=>none
 | _=>none
def zuF:PV->Bool|.bool _=>true|_=>false
def zDA(P:Program)(t:TypeId):Bool:=match P.underlying t with|some .string=>true|_=>false
def zA7(P:Program)(t:TypeId):AV->AV->Option Bool
 | .p (.str a),.p (.str b)=>match zDA P t with|true=>some (a==b)|false=>none
 | .p (.int k a),.p (.int k' b)=>match zuE k k',P.underlying t with|true,some (.int _)=>some (a==b)|_,_=>none
 | .p (.bool a),.p (.bool b)=>match zhe P t with|true=>some (a==b)|false=>none
 | _,_=>none
def zuZ(P:Program)(xs ys:List AV):List Field->Option Bool
 | []=>some true
 | f::fs=>match f.name != "_" with
  | true=>match apart P f.type xs f.offset,apart P f.type ys f.offset with
   | some a,some b=>match zA7 P f.type a b with
    | some c=>match zuZ P xs ys fs with
     | some r=>some (c&&r)
     | none=>none
    | none=>none
   | _,_=>none
  | false=>none
def zso(P:Program)(t:TypeId):Bool:=(match P.underlying t with|some (.struct _)=>true|_=>false)&&(!(P.stoodInHeld t)&&!(P.eqGuardType P.depth t))
def zDQ(P:Program)(op:BinOp)(t:TypeId):List AV->Option (AV×Option Prop)
 | [.p x,.p y]=>match zuF x with
  | true=>match zhe P t with
   | true=>(zya op x y).map fun r=>(.p r.1,r.2)
   | false=>none
  | false=>(zya op x y).map fun r=>(.p r.1,r.2)
 | [.agg xs,.agg ys]=>match zso P t with
  | true=>match zuZ P xs ys (P.fieldsOf t).toList with
   | some c=>match op with
    | .eql=>some (.p (.bool c),none)
    | .neq=>some (.p (.bool (!c)),none)
    | _=>none
   | none=>none
  | false=>none
 | _=>none
def evUn(op:UnOp):List AV->Option (AV×Option Prop)
 | [.p (.bool b)]=>match op with
  | .not=>some (.p (.bool (!b)),none)
  | _=>none
 | [.p (.int k n)]=>match op with
  | .neg=>some (.p (zgt k (0-n)).1,(zgt k (0-n)).2)
  | _=>none
 | _=>none
def zJv(P:Program)(t:TypeId):Bool:=(P.underlying t).isSome
def zKI(P:Program)(s d:TypeId):List AV->Option (AV×Option Prop)
 | [.p x]=>match zJv P s with
  | true=>(zLj P d x).map fun r=>(.p r,none)
  | false=>none
 | _=>none
def zDN(P:Program)(t:TypeId):List AV->Option (AV×Option Prop)
 | [.p (.str l),.p (.int _ i)]=>yV (zaY P t) (.p (.int .u8 ((l.getD i.toNat 0).toNat:Int)),some (0<=i/\i<(l.length:Int)))
 | _=>none
def zaZ(P:Program)(t:TypeId):Option Nat:=
 match zdn P t with
 | some e=>zaH P e
 | none=>none
def zuV(P:Program)(t:TypeId)(lo hi:Bool):List AV->Option (AV×Option Prop)
 | [.p (.str l)]=>match lo,hi with
  | false,false=>yV (zaY P t) (.p (.str l),none)
  | _,_=>none
 | [.p (.str l),.p (.int _ i)]=>match lo,hi with
  | true,false=>yV (zaY P t) (.p (.str (l.drop i.toNat)),some (0<=i/\i<=(l.length:Int)))
  | false,true=>yV (zaY P t) (.p (.str (l.take i.toNat)),some (0<=i/\i<=(l.length:Int)))
  | _,_=>none
 | [.p (.str l),.p (.int _ i),.p (.int _ j)]=>match lo,hi with
  | true,true=>yV (zaY P t) (zLe l i j)
  | _,_=>none
 | [.p (.list k (.dat a l)),.p (.int _ i)]=>match lo,hi,zaZ P t with
  | true,false,some k'=>yV (Nat.beq k k') (.p (.list k (.dat a (l.drop i.toNat))),some (0<=i/\i<=(l.length:Int)))
  | _,_,_=>none
 | _=>none
def zs3(i:Nat):List AV->Option (AV×Option Prop)
 | [.tup cs]=>match Nat.blt i cs.length with|true=>some (cs.getD i .any,none)|false=>none
 | _=>none
def zDO(P:Program)(t:TypeId)(f:Nat):List AV->Option (AV×Option Prop)
 | [.agg cs]=>match znV P t f with
  | some fd=>(apart P fd.type cs fd.offset).map fun r=>(r,none)
  | none=>none
 | _=>none
def zlE(k:Nat):AV->Option AV
 | .ref id off=>some (.ref id (off+k))
 | .p (.box n g)=>match Nat.ble k n with
  | true=>some (.p (.box (n-k) (fun j=>g (k+j))))
  | false=>none
 | .aptr id i off=>some (.aptr id i (off+k))
 | _=>none
def zmG(P:Program)(t:TypeId)(f:Nat):List AV->Option (AV×Option Prop)
 | [x]=>match znV P t f with
  | some fd=>match zaH P fd.type with
   | some (_+1)=>(zlE fd.offset x).map fun r=>(r,none)
   | _=>none
  | none=>none
 | _=>none
def zmF(P:Program)(t:TypeId):List AV->Option (AV×Option Prop)
 | [.p (.list k R),.p (.int _ i)]=>match zaZ P t with
  | some k'=>yV (Nat.beq k k') (.p (.box k (R.f i.toNat)),some (0<=i/\i<(R.n:Int)))
  | none=>none
 | [.p (.bytes l),.p (.int _ i)]=>match zaZ P t with
  | some k'=>yV (Nat.beq 1 k') (.p (.box 1 (fun _=>.int .u8 ((l.getD i.toNat 0).toNat:Int))),some (0<=i/\i<(l.length:Int)))
  | none=>none
 | _=>none
def zpR:List AV->Option (AV×Option Prop)
 | [.ref id off]=>some (.ref id off,none)
 | [.p (.box n f)]=>some (.p (.box n f),none)
 | _=>none
def zQK(P:Program)(t:TypeId):List AV->Option (AV×Option Prop)
 | [.p x]=>match x with
  | .str l=>yV (zaY P t) (.p (.int .i64 (l.length:Int)),none)
  | .bytes l=>yV (yK P t) (.p (.int .i64 (l.length:Int)),none)
  | .list _ R=>yV (yK P t) (.p (.int .i64 (R.n:Int)),none)
  | .nil=>yV (yK P t) (.p (.int .i64 0),none)
  | _=>none
 | _=>none
def zQI:List AV->Option (AV×Option Prop)
 | .p (.int .i64 a)::r=>(zjV a r).map fun n=>(.p (.int .i64 n),none)
 | _=>none
def zQJ:List AV->Option (AV×Option Prop)
 | .p (.int .i64 a)::r=>(zjW a r).map fun n=>(.p (.int .i64 n),none)
 | _=>none
def zs4(P:Program)(b:Builtin)(ts:Array TypeId)(xs:List AV):Option (AV×Option Prop):=
 match b with
 | .len=>match ts[0]? with|some t=>zQK P t xs|none=>none
 | .min=>zQI xs
 | .max=>zQJ xs
 | _=>none
def zDP(P:Program)(c:Call)(xs:List AV):Option (AV×Option Prop):=
 match c.callee with
 | .builtin b=>zs4 P b c.argTypes xs
 | _=>none
def evP(P:Program)(op:Op)(xs:List AV):Option (AV×Option Prop):=
 match op with
 | .move _=>ev1 xs
 | .assign _=>ev1 xs
 | .pick _ x y=>zKF x y xs
 | .binOp op t _ _ _=>zDQ P op t xs
 | .unOp op _ _=>evUn op xs
 | .convert s d _=>zKI P s d xs
 | .index t _ _=>zDN P t xs
 | .slice t _ lo hi mx=>match mx with
  | none=>zuV P t lo.isSome hi.isSome xs
  | some _=>none
 | .extract _ i=>zs3 i xs
 | .field t _ f=>zDO P t f xs
 | .fieldAddr t _ f=>zmG P t f xs
 | .indexAddr t _ _=>zmF P t xs
 | .makeFunc fn a _=>some (.clo fn (xs.take a.size) (xs.drop a.size),none)
 | .nilCheck _=>zpR xs
 | .call c=>zDP P c xs
 | _=>none
end Go.Am
/-! Rows of plain data: made, put together, changed. -/
namespace Go.Am
open Go Go.RowKit
variable {M:Mem}
def zIH:PV->Option (List UInt8)|.str l=>some l|_=>none
def zIJ:PV->Option Bool|.bool b=>some b|_=>none
def zw5(k:IntKind):PV->Option Int
 | .int k' n=>(match zuE k' k with|true=>some n|false=>none)
 | _=>none
def zII:PV->Option (List UInt8)|.bytes l=>some l|.nil=>some []|_=>none
def zA(a:Ec):PV->Option (List (Elt a))
 | .nil=>some []
 | .list k (.dat a' l)=>match Nat.beq k (wid a),decEq a' a with
  | true,.isTrue h=>some (h ▸ l)
  | _,_=>none
 | _=>none
def zK{α:Type}(f:Nat->α):Nat->Nat->List α
 | 0,_=>[]
 | n+1,i=>f i::zK f n (i+1)
theorem zff{α:Type}{f:Nat->α}{d:α}:∀ {n i j:Nat},j<n->(zK f n i).getD j d=f (i+j)
 | n+1,i,0,_=>rfl
 | n+1,i,j+1,h=>by
  have:=zff (f:=f) (d:=d) (n:=n) (i:=i+1) (j:=j) (by omega)
  simp only[zK,List.getD_cons_succ,this]
  congr 1;omega
def zT:(c:Ec)->List PV->Option (Elt c)
 | .bool,[x]=>zIJ x
 | .int k,[x]=>zw5 k x
 | .str,[x]=>zIH x
 | .bytes,[x]=>zII x
 | .list a,[x]=>zA a x
 | .pair a b,ys=>match zT a (ys.take (wid a)),zT b (ys.drop (wid a))with
  | some x,some y=>some (x,y)
  | _,_=>none
 | .part,[a,b,c,d,e,f,g,h]=>match zIH a,zA (.pair .str .str) b,zIH c,zIJ d,zw5 .i64 e,zw5 .i64 f,zw5 .i64 g,zA .part h with
  | some a,some b,some c,some d,some e,some f,some g,some h=>some (.mk a b c d e f g h)
  | _,_,_,_,_,_,_,_=>none
 | .node,[a,b,c,d,e]=>match zw5 .i64 a,zw5 .i64 b,zIH c,zA .str d,zA .node e with
  | some a,some b,some c,some d,some e=>some (.mk a b c d e)
  | _,_,_,_,_=>none
 | .box a,[.box n f]=>match Nat.beq n (wid a)with
  | true=>zT a (zK f n 0)
  | false=>none
 | _,_=>none
theorem zg6{x:PV}{l:List UInt8}(h:zIH x=some l):x=.str l:=by cases x <;> cases h;rfl
theorem zpi{x:PV}{l:Bool}(h:zIJ x=some l):x=.bool l:=by cases x <;> cases h;rfl
theorem zdc{k:IntKind}{x:PV}{l:Int}(h:zw5 k x=some l):x=.int k l:=by
 cases x <;> simp only[zw5,reduceCtorEq]at h
 split at h
 .rename_i hk;cases h;rw[zlP hk]
 .cases h
theorem zw6{x:PV}{l:List UInt8}(h:zII x=some l){v:Value}(hv:zR M x v):zR M (.bytes l) v:=by
 cases x <;> cases h
 .cases hv;exact .bytesNil
 .exact hv
theorem zdv{a:Ec}{x:PV}{l:List (Elt a)}(h:zA a x=some l){v:Value}(hv:zR M x v):zR M (.list (wid a) (.dat a l)) v:=by
 cases x with
 | nil=>cases h;cases hv;exact .listNil _ _ rfl
 | list k R=>
  cases R with
  | fn n f=>cases h
  | dat a' l'=>
   simp only[zA]at h
   split at h
   .rename_i he hk heq;subst he;cases h;rw[<-Nat.eq_of_beq_eq_true hk];exact hv
   .cases h
 | _=>cases h
theorem zdj:∀ {c:Ec} {ys:List PV} {a:Elt c},zT c ys=some a->ys.length=wid c/\∀ j,j<wid c->∀ v,zR M (ys.getD j .bad) v->zR M (cell c a j) v:=by
 have one:∀ {x:PV} {c:Ec} {a:Elt c},wid c=1->(∀ v,zR M x v->zR M (cell c a 0) v)->[x].length=wid c/\∀ j,j<wid c->∀ v,zR M ([x].getD j .bad) v->zR M (cell c a j) v:=by
  intro x c a hw h
  refine⟨hw.symm,fun j hj v hv=>?_⟩
  have:j=0:=by omega
  subst this
  exact h v hv
 intro c
 induction c with
 | bool=>
  intro ys a h
  match ys,h with
  | [x],h=>exact one rfl fun v hv=>by rw[zpi h]at hv;exact hv
 | int k=>
  intro ys a h
  match ys,h with
  | [x],h=>exact one rfl fun v hv=>by rw[zdc h]at hv;exact hv
 | str=>
  intro ys a h
  match ys,h with
  | [x],h=>exact one rfl fun v hv=>by rw[zg6 h]at hv;exact hv
 | bytes=>
  intro ys a h
  match ys,h with
  | [x],h=>exact one rfl fun v hv=>zw6 h hv
 | list b=>
  intro ys a h
  match ys,h with
  | [x],h=>exact one rfl fun v hv=>zdv h hv
 | pair a b iha ihb=>
  intro ys x h
  simp only[zT]at h
  split at h
  .rename_i p q hp hq
   cases h
   obtain⟨l1,h1⟩:=iha hp
   obtain⟨l2,h2⟩:=ihb hq
   have l1':min (wid a) ys.length=wid a:=by rw[<-l1,List.length_take];omega
   have l2':ys.length-wid a=wid b:=by rw[<-l2,List.length_drop]
   refine⟨by simp only[wid];omega,fun j hj v hv=>?_⟩
   simp only[wid]at hj
   simp only[cell]
   cases hlt:Nat.blt j (wid a)with
   | true=>
    have hlt:j<wid a:=Nat.le_of_ble_eq_true hlt
    refine h1 j hlt v ?_
    rw[List.getD_eq_getElem?_getD,List.getElem?_take_of_lt hlt,<-List.getD_eq_getElem?_getD];exact hv
   | false=>
    have hge:wid a<=j:=by
     rcases Nat.lt_or_ge j (wid a)with h5|h5
     .have:Nat.blt j (wid a)=true:=Nat.ble_eq_true_of_le h5
      rw[this]at hlt;cases hlt
     .exact h5
    refine h2 (j-wid a) (by omega) v ?_
    rw[List.getD_eq_getElem?_getD,List.getElem?_drop,<-List.getD_eq_getElem?_getD]
    have e:wid a+(j-wid a)=j:=by omega
    rw[e];exact hv
  .cases h
 | part=>
  intro ys x h
  match ys,h with
  | [a,b,c,d,e,f,g,k],h=>
   simp only[zT]at h
   split at h
   .rename_i ha hb hc hd he hf hg hk
    cases h
    refine⟨rfl,fun j hj v hv=>?_⟩
    simp only[wid]at hj
    match j,hj,hv with
    | 0,_,hv=>rw[show([a,b,c,d,e,f,g,k]:List PV).getD 0 .bad=a from rfl,zg6 ha]at hv;exact hv
    | 1,_,hv=>exact zdv hb hv
    | 2,_,hv=>rw[show([a,b,c,d,e,f,g,k]:List PV).getD 2 .bad=c from rfl,zg6 hc]at hv;exact hv
    | 3,_,hv=>rw[show([a,b,c,d,e,f,g,k]:List PV).getD 3 .bad=d from rfl,zpi hd]at hv;exact hv
    | 4,_,hv=>rw[show([a,b,c,d,e,f,g,k]:List PV).getD 4 .bad=e from rfl,zdc he]at hv;exact hv
    | 5,_,hv=>rw[show([a,b,c,d,e,f,g,k]:List PV).getD 5 .bad=f from rfl,zdc hf]at hv;exact hv
    | 6,_,hv=>rw[show([a,b,c,d,e,f,g,k]:List PV).getD 6 .bad=g from rfl,zdc hg]at hv;exact hv
    | 7,_,hv=>exact zdv hk hv
   .cases h
 | node=>
  intro ys x h
  match ys,h with
  | [a,b,c,d,e],h=>
   simp only[zT]at h
   split at h
   .rename_i ha hb hc hd he
    cases h
    refine⟨rfl,fun j hj v hv=>?_⟩
    simp only[wid]at hj
    match j,hj,hv with
    | 0,_,hv=>rw[show([a,b,c,d,e]:List PV).getD 0 .bad=a from rfl,zdc ha]at hv;exact hv
    | 1,_,hv=>rw[show([a,b,c,d,e]:List PV).getD 1 .bad=b from rfl,zdc hb]at hv;exact hv
    | 2,_,hv=>rw[show([a,b,c,d,e]:List PV).getD 2 .bad=c from rfl,zg6 hc]at hv;exact hv
    | 3,_,hv=>exact zdv hd hv
    | 4,_,hv=>exact zdv he hv
   .cases h
 | box b ih=>
  intro ys x h
  match ys,h with
  | [.box n f],h=>
   simp only[zT]at h
   split at h
   .rename_i hn
    have hn:=Nat.eq_of_beq_eq_true hn
    subst hn
    obtain⟨_,h2⟩:=ih h
    refine one rfl fun v hv=>?_
    cases hv with
    | box _ _ bl off g hM hx=>
     refine .box _ _ bl off g hM fun j hj=>?_
     refine h2 j hj _ ?_
     rw[zff hj,Nat.zero_add];exact hx j hj
   .cases h
theorem zPP{c:Ec}{f:Nat->PV}{x:Elt c}(h:zT c (zK f (wid c) 0)=some x){v:Value}(hv:zR M (.box (wid c) f) v):zR M (.box (wid c) (cell c x)) v:=by
 cases hv with
 | box _ _ bl off g hM hx=>
  refine .box _ _ bl off g hM fun j hj=>?_
  refine(zdj (M:=M) h).2 j hj _ ?_
  rw[zff hj,Nat.zero_add];exact hx j hj
def znX(c:Ec)(k:Nat):Nat->List PV->Option (List (Elt c))
 | 0,_=>some []
 | n+1,l=>match zT c (l.take k),znX c k n (l.drop k)with
  | some a,some r=>some (a::r)
  | _,_=>none
def zIv(k n:Nat)(l:List PV):Rows:=.fn n fun i j=>l.getD (i*k+j) .bad
def mkR(oc:Option Ec)(k n:Nat)(l:List PV):Rows:=
 match oc with
 | some c=>match Nat.beq k (wid c)with
  | true=>match znX c k n l with
   | some r=>.dat c r
   | none=>zIv k n l
  | false=>zIv k n l
 | none=>zIv k n l
theorem zu5{c:Ec}{k:Nat}(hk:k=wid c):∀ {n:Nat} {l:List PV} {r:List (Elt c)},znX c k n l=some r->r.length=n/\
 ∀ i j,i<n->j<k->∀ v,zR M (l.getD (i*k+j) .bad) v->zR M (cell c (r.getD i (dfl c)) j) v:=by
 intro n
 induction n with
 | zero=>intro l r h;cases h;exact⟨rfl,fun i j hi=>absurd hi (Nat.not_lt_zero _)⟩
 | succ n ih=>
  intro l r h
  simp only[znX]at h
  split at h
  .rename_i a r' ha hr
   cases h
   obtain⟨h1,h2⟩:=ih hr
   obtain⟨h3,h4⟩:=zdj (M:=M) ha
   refine⟨by simp[h1],fun i j hi hj v hv=>?_⟩
   cases i with
   | zero=>
    simp only[List.getD_cons_zero]
    refine h4 j (by omega) v ?_
    rw[Nat.zero_mul,Nat.zero_add]at hv
    rw[List.getD_eq_getElem?_getD,List.getElem?_take_of_lt hj,<-List.getD_eq_getElem?_getD];exact hv
   | succ i=>
    simp only[List.getD_cons_succ]
    refine h2 i j (by omega) hj v ?_
    rw[List.getD_eq_getElem?_getD,List.getElem?_drop,<-List.getD_eq_getElem?_getD]
    have e:k+(i*k+j)=(i+1)*k+j:=by rw[Nat.add_mul,Nat.one_mul];omega
    rw[e];exact hv
  .cases h
theorem zJn(oc:Option Ec)(k n:Nat)(l:List PV):(mkR oc k n l).n=n/\∀ i j,i<n->j<k->∀ v,zR M (l.getD (i*k+j) .bad) v->zR M ((mkR oc k n l).f i j) v:=by
 have raw:(zIv k n l).n=n/\∀ i j,i<n->j<k->∀ v,zR M (l.getD (i*k+j) .bad) v->zR M ((zIv k n l).f i j) v:=⟨rfl,fun _ _ _ _ _ h=>h⟩
 unfold mkR
 split
 .split
  .rename_i hk
   split
   .rename_i hr;exact zu5 (Nat.eq_of_beq_eq_true hk) hr
   .exact raw
  .exact raw
 .exact raw
def zNW(oc:Option Ec)(n:Nat)(z:PV):Rows:=
 match oc with
 | some c=>match Nat.beq 1 (wid c)with
  | true=>match zT c [z]with
   | some a=>.dat c (List.replicate n a)
   | none=>.fn n fun _ _=>z
  | false=>.fn n fun _ _=>z
 | none=>.fn n fun _ _=>z
theorem zE9(oc:Option Ec)(n:Nat)(z:PV):(zNW oc n z).n=n/\∀ i j,i<n->j<1->∀ v,zR M z v->zR M ((zNW oc n z).f i j) v:=by
 have raw:(Rows.fn n fun _ _=>z).n=n/\∀ i j,i<n->j<1->∀ v,zR M z v->zR M ((Rows.fn n fun _ _=>z).f i j) v:=⟨rfl,fun _ _ _ _ _ h=>h⟩
 unfold zNW
 split
 .split
  .rename_i hk
   split
   .rename_i ha
    obtain⟨_,h4⟩:=zdj (M:=M) ha
    refine⟨List.length_replicate,fun i j hi hj v hv=>?_⟩
    have:j=0:=by omega
    subst this
    have hk:=Nat.eq_of_beq_eq_true hk
    simp only[Rows.f]
    rw[List.getD_eq_getElem?_getD,List.getElem?_replicate,if_pos hi]
    exact h4 0 (by omega) v hv
   .exact raw
  .exact raw
 .exact raw
def zu9(n:Nat)(f g:Nat->Nat->PV):Nat->Nat->PV:=fun i j=>match Nat.blt i n with|true=>f i j|false=>g (i-n) j
def zGN:Rows->Rows->Rows
 | .dat c l,.dat c' l'=>match decEq c' c with
  | .isTrue h=>.dat c (l++(h ▸ l':List (Elt c)))
  | .isFalse _=>.fn (l.length+l'.length) (zu9 l.length (Rows.dat c l).f (Rows.dat c' l').f)
 | .dat c l,.fn 0 _=>.dat c l
 | a,b=>.fn (a.n+b.n) (zu9 a.n a.f b.f)
theorem zPM{n:Nat}{f g:Nat->Nat->PV}{i j:Nat}(h:i<n):zu9 n f g i j=f i j:=by
 unfold zu9
 have:Nat.blt i n=true:=Nat.ble_eq_true_of_le h
 rw[this]
theorem zPN{n:Nat}{f g:Nat->Nat->PV}{i j:Nat}(h:n<=i):zu9 n f g i j=g (i-n) j:=by
 unfold zu9
 cases hlt:Nat.blt i n with
 | true=>exact absurd (Nat.le_of_ble_eq_true hlt:i<n) (by omega)
 | false=>rfl
theorem zGM(a b:Rows):(zGN a b).n=a.n+b.n/\(∀ i j,i<a.n->(zGN a b).f i j=a.f i j)/\(∀ i j,a.n<=i->i<a.n+b.n->(zGN a b).f i j=b.f (i-a.n) j):=by
 have raw:∀ a b:Rows,(Rows.fn (a.n+b.n) (zu9 a.n a.f b.f)).n=a.n+b.n/\(∀ i j,i<a.n->(Rows.fn (a.n+b.n) (zu9 a.n a.f b.f)).f i j=a.f i j)/\(∀ i j,a.n<=i->i<a.n+b.n->(Rows.fn (a.n+b.n) (zu9 a.n a.f b.f)).f i j=b.f (i-a.n) j):=
  fun a b=>⟨rfl,fun i j h=>zPM h,fun i j h _=>zPN h⟩
 unfold zGN
 split
 .rename_i c l c' l'
  split
  .rename_i h _
   subst h
   refine⟨by simp[Rows.n],fun i j hi=>?_,fun i j hi _=>?_⟩
   .simp only[Rows.n]at hi
    simp only[Rows.f]
    rw[List.getD_eq_getElem?_getD,List.getElem?_append_left hi,<-List.getD_eq_getElem?_getD]
   .simp only[Rows.n]at hi
    simp only[Rows.f,Rows.n]
    rw[List.getD_eq_getElem?_getD,List.getElem?_append_right hi,<-List.getD_eq_getElem?_getD]
  .exact raw (.dat c l) (.dat c' l')
 .exact ⟨rfl,fun _ _ _=>rfl,fun i j h1 h2=>absurd h2 (by simp[Rows.n]at h1 ⊢;omega)⟩
 .exact raw _ _
def zlF(f:Nat->Nat->PV)(i j m:Nat)(ps:List PV):Nat->Nat->PV:=
 fun i' j'=>match Nat.beq i' i&&Nat.ble j j'&&Nat.blt j' (j+m)with|true=>ps.getD (j'-j) .bad|false=>f i' j'
def zRB(f:Nat->PV)(j m:Nat)(ps:List PV):Nat->PV:=
 fun j'=>match Nat.ble j j'&&Nat.blt j' (j+m)with|true=>ps.getD (j'-j) .bad|false=>f j'
theorem zEZ(f:Nat->Nat->PV)(i j m:Nat)(ps:List PV)(j':Nat):zlF f i j m ps i j'=zRB (f i) j m ps j':=by
 unfold zlF zRB
 rw[Nat.beq_refl,Bool.true_and]
def zND(R:Rows)(k i j m:Nat)(ps:List PV):Rows:=
 match R with
 | .dat c l=>match Nat.beq k (wid c)with
  | true=>match zT c (zK (zRB ((Rows.dat c l).f i) j m ps) k 0)with
   | some a=>.dat c (l.set i a)
   | none=>.fn R.n (zlF R.f i j m ps)
  | false=>.fn R.n (zlF R.f i j m ps)
 | .fn _ _=>.fn R.n (zlF R.f i j m ps)
theorem zNE{f:Nat->Nat->PV}{i j m i' j':Nat}{ps:List PV}(h:i'≠i):zlF f i j m ps i' j'=f i' j':=by
 unfold zlF
 cases hb:Nat.beq i' i with
 | true=>exact absurd (Nat.eq_of_beq_eq_true hb) h
 | false=>rfl
theorem zEY(R:Rows)(k i j m:Nat)(ps:List PV):(zND R k i j m ps).n=R.n/\∀ i' j',i'<R.n->j'<k->∀ v,zR M (zlF R.f i j m ps i' j') v->zR M ((zND R k i j m ps).f i' j') v:=by
 have raw:(Rows.fn R.n (zlF R.f i j m ps)).n=R.n/\∀ i' j',i'<R.n->j'<k->∀ v,zR M (zlF R.f i j m ps i' j') v->zR M ((Rows.fn R.n (zlF R.f i j m ps)).f i' j') v:=⟨rfl,fun _ _ _ _ _ h=>h⟩
 unfold zND
 split
 .rename_i c l
  split
  .rename_i hk
   have hk:=Nat.eq_of_beq_eq_true hk
   split
   .rename_i a ha
    obtain⟨_,h4⟩:=zdj (M:=M) ha
    refine⟨List.length_set,fun i' j' hi hj v hv=>?_⟩
    simp only[Rows.n]at hi
    by_cases e:i'=i
    .subst e
     simp only[Rows.f]
     rw[List.getD_eq_getElem?_getD,List.getElem?_set_self hi]
     refine h4 j' (by omega) v ?_
     rw[zff hj,Nat.zero_add,<-zEZ]
     exact hv
    .rw [zNE e]at hv
     simp only[Rows.f]at hv ⊢
     rw[List.getD_eq_getElem?_getD,List.getElem?_set_ne (fun h=>e h.symm),<-List.getD_eq_getElem?_getD]
     exact hv
   .exact raw
  .exact raw
 .exact raw
def zxR(l:List (Option Ec)):Option Ec:=
 match l with
 | []=>none
 | [x]=>x
 | x::r=>match x,zxR r with
  | some a,some b=>some (.pair a b)
  | _,_=>none
def zxQ(P:Program):Nat->TypeId->Option Ec
 | 0,_=>none
 | n+1,t=>match P.underlying t with
  | some .bool=>some .bool
  | some (.int k)=>some (.int k)
  | some .string=>some .str
  | some (.slice e)=>match P.underlying e with
   | some (.int .u8)=>some .bytes
   | _=>(zxQ P n e).map .list
  | some (.pointer e)=>(zxQ P n e).map .box
  | some (.struct fs)=>match fs.toList.reverse with
   | x::_=>match (match P.underlying x.type with|some (.slice e)=>Nat.beq e t|_=>false),fs.size with
    | true,8=>some .part
    | true,5=>some .node
    | true,_=>none
    | false,_=>zxR (fs.toList.map fun f=>zxQ P n f.type)
   | []=>none
  | _=>none
end Go.Am
/-! The soundness of 'evP'. -/
namespace Go.Am
open Go Go.RowKit
variable {P:Program}{γ:Nat->Option G}{M:Mem}
inductive zB(γ:Nat->Option G)(M:Mem):List AV->List Value->Prop
 | nil:zB γ M [] []
 | cons {x:AV} {v:Value} {xs:List AV} {vs:List Value} (h:zp γ M x v) (t:zB γ M xs vs):zB γ M (x::xs) (v::vs)
theorem zB.length{xs:List AV}{vs:List Value}(h:zB γ M xs vs):vs.length=xs.length:=by
 induction h with
 | nil=>rfl
 | cons _ _ ih=>simp[ih]
theorem zB.get{xs:List AV}{vs:List Value}(h:zB γ M xs vs):∀ i,i<xs.length->zp γ M (xs.getD i .any) (vs.getD i undef):=by
 induction h with
 | nil=>intro i hi;exact absurd hi (Nat.not_lt_zero _)
 | cons h _ ih=>
  intro i hi
  cases i with
  | zero=>exact h
  | succ i=>exact ih i (by simpa using hi)
theorem zB.map{ρ:Operand->Value}{σ:Operand->AV}(h:∀ x,zp γ M (σ x) (ρ x)):∀ l:List Operand,zB γ M (l.map σ) (l.map ρ)
 | []=>.nil
 | x::l=>.cons (h x) (zB.map h l)
theorem zB.take{xs:List AV}{vs:List Value}(h:zB γ M xs vs):∀ n,zB γ M (xs.take n) (vs.take n):=by
 induction h with
 | nil=>intro n;simp;exact .nil
 | cons h _ ih=>intro n;cases n with
  | zero=>exact .nil
  | succ n=>exact .cons h (ih n)
theorem zB.drop{xs:List AV}{vs:List Value}(h:zB γ M xs vs):∀ n,zB γ M (xs.drop n) (vs.drop n):=by
 induction h with
 | nil=>intro n;simp;exact .nil
 | cons h t ih=>intro n;cases n with
  | zero=>exact .cons h t
  | succ n=>exact ih n
theorem zp.p_inv{x:PV}{v:Value}(h:zp γ M (.p x) v):zR M x v:=by cases h;assumption
theorem zp.int_inv{k:IntKind}{n:Int}{v:Value}(h:zp γ M (.p (.int k n)) v):v=.int k n/\k.has n:=h.p_inv.int_inv
theorem zp.str_inv{l:List UInt8}{v:Value}(h:zp γ M (.p (.str l)) v):v=.string ⟨l.toArray⟩/\l.length<=maxLen:=h.p_inv.str_inv
theorem zp.bool_inv{b:Bool}{v:Value}(h:zp γ M (.p (.bool b)) v):v=.bool b:=h.p_inv.bool_inv
theorem zp.gd_inv{c:Bool}{x:AV}{v:Value}(h:zp γ M (.gd c x) v)(hc:c=true):zp γ M x v:=by cases h with|gd _ _ _ h _=>exact h hc
theorem zI{b:Bool}{α:Type}{x y:α}(h:yV b x=some y):b=true/\x=y:=by
 cases b
 .cases h
 .cases h;exact⟨rfl,rfl⟩
theorem zrw{t:TypeId}(ht:zaY P t=true)(l:List UInt8)(k:IntKind)(i:Int)(h0:0<=i)(h1:i<(l.length:Int))(w:World):
 (Instr.index t (.string ⟨l.toArray⟩) (.int k i)).run P w=.ok (.int .u8 ((l.getD i.toNat 0).toNat:Int)) w:=by
 have hi:i.toNat<l.length:=by omega
 have e:(⟨l.toArray⟩:ByteArray)[i.toNat]?=some (l.getD i.toNat 0):=by
  rw[getElem?_pos (⟨l.toArray⟩:ByteArray) i.toNat (by simpa[ByteArray.size]using hi)]
  simp only[List.getD_eq_getElem?_getD,List.getElem?_eq_getElem hi,Option.getD_some]
  rfl
 simp only[Instr.index,asIntOf]
 simp[run_underlying (zby ht),h0,e]
theorem yU{n:Nat}(h:n<=maxLen):IntKind.i64.has (n:Int):=zd6 (by unfold maxLen at h;unfold zh;omega)
theorem zgn(l:List UInt8)(a b:Nat)(hb:b<=l.length):(⟨l.toArray⟩:ByteArray).extract a b=⟨((l.take b).drop a).toArray⟩:=by
 apply ByteArray.ext
 simp only[ByteArray.data_extract,List.extract_toArray,List.extract_eq_take_drop,List.drop_take]
theorem zg2{k:IntKind}{i:Int}{y:Nat}{c:BoundsCode}(h0:0<=i)(h1:i<=(y:Int))(w:World):
 (Instr.sliceBound (.int k i) y c).run P w=.ok i.toNat w:=by
 simp[Instr.sliceBound,asIntOf,h0,h1]
theorem zcf{t:TypeId}(ht:zaY P t=true)(l:List UInt8)(lo hi:Option (IntKind×Int))
 (hlo:∀ k i,lo=some (k,i)->0<=i/\i<=(match hi with|some (_,j)=>j|none=>(l.length:Int)))
 (hhi:∀ k i,hi=some (k,i)->0<=i/\i<=(l.length:Int)) (w:World):
 (Instr.slice t (.string ⟨l.toArray⟩) (lo.map fun x=>.int x.1 x.2) (hi.map fun x=>.int x.1 x.2) none).run P w=
  .ok (.string ⟨((l.take (match hi with|some (_,j)=>j.toNat|none=>l.length)).drop (match lo with|some (_,i)=>i.toNat|none=>0)).toArray⟩) w:=by
 have hsz:(⟨l.toArray⟩:ByteArray).size=l.length:=by simp[ByteArray.size]
 have hu:=run_underlying (zby ht)
 cases hi with
 | none=>
  cases lo with
  | none=>
   simp[Instr.slice,hu,Instr.sliceBounds]
  | some x=>
   obtain⟨k,i⟩:=x
   have:=hlo k i rfl
   simp only[Instr.slice,Instr.sliceBounds,Option.map_some,Option.map_none]
   simp[hu,zg2 this.1 this.2,zgn,hsz]
 | some y=>
  obtain⟨k',j⟩:=y
  have hj:=hhi k' j rfl
  cases lo with
  | none=>
   simp only[Instr.slice,Instr.sliceBounds,Option.map_some,Option.map_none]
   simp[hu,zg2 hj.1 hj.2,hsz]
   rw[zgn _ _ _ (by omega)]
   simp
  | some x=>
   obtain⟨k,i⟩:=x
   have:=hlo k i rfl
   simp only[Instr.slice,Instr.sliceBounds,Option.map_some]
   have h2:i<=(j.toNat:Int):=by have:=this.2;simp at this;omega
   simp[hu,zg2 hj.1 hj.2,zg2 this.1 h2,hsz]
   rw[zgn _ _ _ (by omega)]
theorem zhZ{op:BinOp}{t:TypeId}{x y:Operand}{a b:Value}{p q:PV}(ha:zR M p a)(_hb:zR M q b)
 (h:∀ v,p≠.plain v) (w:World):(eqGuard op t x y a b).run P w=.ok () w:=by
 have h1:a≠.nilIface:=by
  cases ha <;> first
   | (intro e;cases e;done)
   | (exact absurd rfl (h _))
 have h2:∀ cs,a≠.agg cs:=by
  cases ha <;> first
   | (intro cs e;cases e;done)
   | (exact absurd rfl (h _))
 unfold eqGuard
 cases op <;> dsimp only <;> first
  | rfl
  | (simp only [Bool.not_true, Bool.false_eq_true, if_false]
     split
     .exact absurd rfl h1
     .exact absurd rfl (h2 _)
     .rfl)
theorem zF0{α:Type}(l:List α)(n i:Nat)(d:α)(h:i<n):(l.take n).getD i d=l.getD i d:=by
 simp[List.getD_eq_getElem?_getD,h]
theorem zF1{α:Type}(l:List α)(n i:Nat)(d:α):(l.drop n).getD i d=l.getD (n+i) d:=by
 simp[List.getD_eq_getElem?_getD]
theorem zgu{t:TypeId}{cs:List AV}{vs:Array Value}{off:Nat}{r:AV}(h:apart P t cs off=some r)
 (hs:vs.size=cs.length) (hx:∀ i,i<cs.length->zp γ M (cs.getD i .any) (vs.getD i undef)) (w:World):
 ∃ v,(part t vs off).run P w=.ok v w/\zp γ M r v:=by
 unfold apart at h
 cases ha:zlR P t with
 | none=>rw[ha]at h;cases h
 | some b=>
  cases hz:zaH P t with
  | none=>rw[ha,hz]at h;cases b <;> cases h
  | some n=>
   rw[ha,hz]at h
   cases b with
   | true=>
    dsimp only at h
    split at h
    .rename_i hb
     cases h
     have hle:=Nat.le_of_ble_eq_true hb
     refine⟨.agg (vs.extract off (off+n)),by simp[part,zg1 ha,yu hz],.agg _ _ ?_ ?_⟩
     .simp;omega
     .intro i hi
      have hi':i<n:=by simp at hi;omega
      rw[zF0 _ _ _ _ hi',zF1]
      have:=hx (off+i) (by omega)
      have e:(vs.extract off (off+n)).getD i undef=vs.getD (off+i) undef:=by
       simp only[Array.getD_eq_getD_getElem?]
       rw[Array.getElem?_extract]
       rw[if_pos (by omega)]
      rw[e];exact this
    .cases h
   | false=>
    dsimp only at h
    split at h
    .rename_i hb
     cases h
     have hlt:off<cs.length:=Nat.le_of_ble_eq_true hb
     have:=hx off hlt
     obtain⟨u,hv,hu⟩:∃ u,vs[off]?=some u/\vs.getD off undef=u:=
      ⟨vs[off]'(by omega),Array.getElem?_eq_getElem (by omega),by rw[Array.getD_eq_getD_getElem?,Array.getElem?_eq_getElem (by omega)];rfl⟩
     exact⟨u,by simp[part,zg1 ha,hv],hu ▸ this⟩
    .cases h
theorem zjD{t f:Nat}{fd:Field}(h:znV P t f=some fd):∃ fs,P.underlying t=some (.struct fs)/\fs[f]?=some fd:=by
 unfold znV at h
 split at h
 .exact ⟨_,by assumption,h⟩
 .cases h
theorem zrB:∀ (xs:List AV) (vs:List Value) (a n:Int),zjV a xs=some n->zB γ M xs vs->IntKind.i64.has a->∀ w,
 (vs.foldlM Builtin.min2 (.int .i64 a)).run P w=.ok (.int .i64 n) w/\IntKind.i64.has n:=by
 intro xs
 induction xs with
 | nil=>intro vs a n h hx ha w;cases hx;cases h;exact⟨rfl,ha⟩
 | cons x xs ih=>
  intro vs a n h hx ha w
  cases hx with
  | cons hv ht=>
   unfold zjV at h
   split at h
   .rename_i heq;cases heq
   .rename_i y r heq
    cases heq
    obtain⟨rfl,hy⟩:=hv.int_inv
    have:=ih _ _ _ h ht (by split <;> assumption) w
    simp only[List.foldlM_cons]
    rw[Sem.run_bind]
    simp only[Builtin.min2,Sem.run_pure,Result.andThen_ok]
    exact this
   .cases h
theorem zrC:∀ (xs:List AV) (vs:List Value) (a n:Int),zjW a xs=some n->zB γ M xs vs->IntKind.i64.has a->∀ w,
 (vs.foldlM Builtin.max2 (.int .i64 a)).run P w=.ok (.int .i64 n) w/\IntKind.i64.has n:=by
 intro xs
 induction xs with
 | nil=>intro vs a n h hx ha w;cases hx;cases h;exact⟨rfl,ha⟩
 | cons x xs ih=>
  intro vs a n h hx ha w
  cases hx with
  | cons hv ht=>
   unfold zjW at h
   split at h
   .rename_i heq;cases heq
   .rename_i y r heq
    cases heq
    obtain⟨rfl,hy⟩:=hv.int_inv
    have:=ih _ _ _ h ht (by split <;> assumption) w
    simp only[List.foldlM_cons]
    rw[Sem.run_bind]
    simp only[Builtin.max2,Sem.run_pure,Result.andThen_ok]
    exact this
   .cases h
end Go.Am
namespace Go.Am
open Go Go.RowKit
variable {P:Program}{γ:Nat->Option G}{M:Mem}
theorem zBk{op:BinOp}{x y:PV}{r:PV}{ok:Option Prop}(h:zya op x y=some (r,ok))(hok:okP ok){a b:Value}
 (ha:zR M x a) (hb:zR M y b) (t:TypeId) (hnb:∀ c,x≠.bool c) (w:World):∃ v,(binOp op t a b).run P w=.ok v w/\zR M r v:=by
 unfold zya at h
 split at h
 .rename_i k m k' n
  obtain⟨rfl,ha'⟩:=ha.int_inv
  obtain⟨rfl,hb'⟩:=hb.int_inv
  split at h
  .cases h
   have:¬ n<0:=by omega
   exact⟨_,by simp[binOp,Op.shift,this],.int _ _ (zcl _ _)⟩
  .cases h
   have:¬ n<0:=by omega
   exact⟨_,by simp[binOp,Op.shift,this],.int _ _ (zKC ha' _)⟩
  .split at h
   .rename_i hk
    cases zlP hk
    exact zrM h hok ha' hb' t w
   .cases h
 .obtain ⟨rfl,_⟩:=ha.str_inv
  obtain⟨rfl,_⟩:=hb.str_inv
  exact zrL h hok t w
 .exact absurd rfl (hnb _)
 .cases h
theorem zjw{t:TypeId}(h:zhe P t=true):P.underlying t=some .bool:=by
 unfold zhe at h;split at h
 .assumption
 .cases h
theorem zqf{op:BinOp}{p q:Bool}{r:PV}{ok:Option Prop}(h:zya op (.bool p) (.bool q)=some (r,ok))(t:TypeId)
 (ht:zhe P t=true) (w:World):∃ v,(binOp op t (.bool p) (.bool q)).run P w=.ok v w/\zR M r v:=by
 have hu:=zjw ht
 cases op <;> simp only[zya,reduceCtorEq,Option.some.injEq]at h <;> cases h
 .exact ⟨.bool (p==q),by simp[binOp,zmp _ _ _ _ hu],.bool _⟩
 .exact ⟨.bool (p != q),by simp[binOp,zmp _ _ _ _ hu] <;> cases p <;> cases q <;> rfl,.bool _⟩
theorem zx9{d s:TypeId}{x r:PV}(h:zLj P d x=some r)(hd:∃ e,P.underlying s=some e){a:Value}(ha:zR M x a)(w:World):
 ∃ v,(convert s d a).run P w=.ok v w/\zR M r v:=by
 obtain⟨e,he⟩:=hd
 unfold zLj at h
 split at h
 .rename_i k s' n hu
  obtain⟨rfl,hn⟩:=ha.int_inv
  split at h
  .rename_i hf
   cases h
   have:=zKz hf hn
   exact⟨.int k n,by simp[convert,run_underlying he,run_underlying hu,Conv.intToInt,zdS this],.int _ _ this⟩
  .cases h
   exact⟨_,by simp[convert,run_underlying he,run_underlying hu,Conv.intToInt],.int _ _ (zcl _ _)⟩
 .rename_i l hu
  cases h
  obtain⟨rfl,hl⟩:=ha.str_inv
  refine⟨.string ⟨l.toArray⟩,?_,.str _ hl⟩
  simp[convert,run_underlying he,run_underlying hu]
 .cases h
theorem zxr{t:TypeId}(h:zJv P t=true):∃ e,P.underlying t=some e:=Option.isSome_iff_exists.1 h
theorem map_some{α β:Type}{x:Option α}{f:α->β}{y:β}(h:x.map f=some y):∃ a,x=some a/\f a=y:=by
 cases x with
 | none=>cases h
 | some a=>exact⟨a,rfl,by injection h⟩
theorem zxN{c:Bool}{x r:AV}{ok:Option Prop}(h:zKK c x=some (r,ok))(hok:okP ok){a b:Value}(ha:zp γ M x a)(hb:b=.bool false):
 zp γ M r (if c then a else b):=by
 subst hb
 unfold zKK at h
 split at h
 .cases h
  cases c
  .exact .p _ _ (.bool false)
  .have:=ha.gd_inv (hok rfl)
   rw[this.bool_inv];exact .p _ _ (.bool _)
 .cases h
  rw[ha.bool_inv]
  cases c <;> exact .p _ _ (.bool _)
 .cases h
theorem zA4{c:Bool}{x r:AV}{ok:Option Prop}(h:zSB c x=some (r,ok))(hok:okP ok){a b:Value}(ha:zp γ M x a)(hb:b=.bool true):
 zp γ M r (if c then b else a):=by
 subst hb
 unfold zSB at h
 split at h
 .cases h
  cases c
  .have:=ha.gd_inv (hok rfl)
   rw[this.bool_inv];exact .p _ _ (.bool _)
  .exact .p _ _ (.bool true)
 .cases h
  rw[ha.bool_inv]
  cases c <;> exact .p _ _ (.bool _)
 .cases h
theorem zeL{x:Operand}{b:Bool}(h:zd3 x=some b):x=.const (.bool b):=by
 unfold zd3 at h
 split at h
 .cases h;rfl
 .cases h
def Lits(ρ:Operand->Value):Prop:=∀ v,ρ (.const v)=v
theorem znw{k:Nat}{x r:AV}(h:zlE k x=some r){v:Value}(hx:zp γ M x v):
 ∃ b off,v=.pointer (some ⟨b,off,none⟩)/\zp γ M r (.pointer (some ⟨b,off+k,none⟩)):=by
 unfold zlE at h
 split at h
 .cases h
  cases hx with
  | ref id off b hb=>exact⟨_,_,rfl,.ref _ _ _ hb⟩
 .split at h
  .rename_i hk
   cases h
   have hk:=Nat.le_of_ble_eq_true hk
   cases hx.p_inv with
   | box n f b off g hM hf=>
    refine⟨b,off,rfl,.p _ _ (.box _ _ _ _ (fun j=>g (k+j)) (fun j hj=>?_) (fun j hj=>hf _ (by omega)))⟩
    have:=hM (k+j) (by omega)
    rw[<-Nat.add_assoc]at this;exact this
  .cases h
 .rename_i id i off
  cases h
  cases hx with
  | aptr _ _ _ g k' n cap hb=>exact⟨g,_,rfl,by have:=zp.aptr (M:=M) id i (off+k) g k' n cap hb;rw[<-Nat.add_assoc]at this;exact this⟩
 .cases h
theorem zad(b off k:Nat):(⟨b,off,none⟩:Addr).add k=⟨b,off+k,none⟩:=by
 unfold Addr.add
 split
 .simp_all
 .rfl
theorem zh5{t:TypeId}{k:Nat}(h:zaZ P t=some k):∃ e,P.underlying t=some (.slice e)/\zaH P e=some k:=by
 unfold zaZ at h
 split at h
 .rename_i e he;exact⟨e,zaA he,h⟩
 .cases h
theorem zal{t:TypeId}{k:Nat}(h:zaZ P t=some k)(b off n cap:Nat)(kk:IntKind)(i:Int)(h0:0<=i)(h1:i<(n:Int))(w:World):
 (Instr.indexAt t (.slice (some ⟨b,off,none⟩) n cap) (.int kk i)).run P w=.ok (.pointer (some ⟨b,off+i.toNat*k,none⟩)) w:=by
 obtain⟨e,hu,hs⟩:=zh5 h
 simp[Instr.indexAt,asIntOf,run_underlying hu,h0,h1,yu hs,zad]
theorem zhk{l:List UInt8}{v:Value}(h:zR M (.bytes l) v):
 (l=[]/\v=.slice none 0 0)\/∃ b off cap,v=.slice (some ⟨b,off,none⟩) l.length cap/\l.length<=maxLen/\l.length<=cap/\∀ i c,l[i]?=some c->M b (off+i)=some (zat c):=by
 cases h with
 | bytesNil=>exact .inl ⟨rfl,rfl⟩
 | bytes l b off cap hm hc h=>exact .inr ⟨b,off,cap,rfl,hm,hc,h⟩
theorem zbm{t:TypeId}(ht:zaY P t=true)(x:Value)(lo hi mx:Option Value)(w:World):
 (Instr.sliceAt t x lo hi mx).run P w=(Instr.slice t x lo hi mx).run P w:=by
 simp[Instr.sliceAt,run_underlying (zby ht)]
theorem zgv{cs:List AV}{v:Value}(h:zp γ M (.agg cs) v):∃ vs,v=.agg vs/\vs.size=cs.length/\∀ i,i<cs.length->zp γ M (cs.getD i .any) (vs.getD i undef):=by
 cases h with|agg _ vs hs h=>exact⟨vs,rfl,hs,h⟩
theorem zu0(d:Nat){t:TypeId}{x y:AV}{c:Bool}(h:zA7 P t x y=some c){a b:Value}(ha:zp γ M x a)(hb:zp γ M y b)(w:World):(Op.equalIn (d+1) t a b).run P w=.ok c w:=by
 unfold zA7 at h
 split at h
 .split at h
  .rename_i ht
   cases h
   have hu:P.underlying t=some .string:=by unfold zDA at ht;split at ht;assumption;cases ht
   rw[ha.str_inv.1,hb.str_inv.1,run_equalIn_string w d t _ _ hu]
   simp[ByteArray.toList_eq]
  .cases h
 .split at h
  .rename_i _ _ hk hu
   cases h
   have hk:=zlP hk
   subst hk
   rw[ha.int_inv.1,hb.int_inv.1]
   exact run_equalIn_int w d t _ _ _ _ hu
  .cases h
 .split at h
  .rename_i ht
   cases h
   rw[ha.bool_inv,hb.bool_inv]
   exact run_equalIn_bool' w d t _ _ (zjw ht)
  .cases h
 .cases h
theorem zjH(d:Nat){xs ys:List AV}{vx vy:Array Value}(hx:zp γ M (.agg xs) (.agg vx))(hy:zp γ M (.agg ys) (.agg vy))(w:World):∀ {fs:List Field} {c:Bool},zuZ P xs ys fs=some c->(Op.eqFields (d+1) vx vy fs).run P w=.ok c w
 | [],c,h=>by cases h;rfl
 | f::fs,c,h=>by
  obtain⟨vx',ex,hsx,hrx⟩:=zgv hx
  obtain⟨vy',ey,hsy,hry⟩:=zgv hy
  cases ex;cases ey
  simp only[zuZ]at h
  split at h
  .rename_i hn
   split at h
   .rename_i a b h1 h2
    split at h
    .rename_i c1 hc
     split at h
     .rename_i r hr
      cases h
      obtain⟨u,hu,hru⟩:=zgu h1 hsx hrx w
      obtain⟨v,hv,hrv⟩:=zgu h2 hsy hry w
      have hne:f.name≠ "_":=by simpa using hn
      simp only[Op.eqFields]
      rw[if_pos hne]
      simp only[Sem.run_bind,hu,hv,Result.andThen_ok,zu0 d hc hru hrv w]
      cases c1 with
      | true=>simpa using zjH d hx hy w hr
      | false=>simp[Sem.run_pure]
     .cases h
    .cases h
   .cases h
  .cases h
theorem zxM{op:BinOp}{t:TypeId}{u u' r:AV}{ok:Option Prop}(h:zDQ P op t [u,u']=some (r,ok))(hok:okP ok){a b:Value}
 (ha:zp γ M u a) (hb:zp γ M u' b) (x y:Operand) (w:World):
 ∃ v,(do eqGuard op t x y a b;binOp op t a b:Sem Value).run P w=.ok v w/\zp γ M r v:=by
 cases u with
 | p p=>
  cases u' with
  | p q=>
   dsimp only[zDQ]at h
   cases hbp:zuF p with
   | true=>
    rw[hbp]at h
    dsimp only at h
    cases ht:zhe P t with
    | false=>rw[ht]at h;cases h
    | true=>
     rw[ht]at h
     obtain⟨⟨r',ok'⟩,hab,hr⟩:=map_some h
     cases hr
     cases p <;> simp only[zuF,reduceCtorEq]at hbp
     rename_i p
     cases q with
     | bool q=>
      obtain⟨v,hv,hrel⟩:=zqf (P:=P) (M:=M) hab t ht w
      have e1:=ha.bool_inv
      have e2:=hb.bool_inv
      have hg:=zhZ (P:=P) (op:=op) (t:=t) (x:=x) (y:=y) ha.p_inv hb.p_inv (by intro v e;cases e) w
      rw[e1,e2]at hg
      exact⟨v,by rw[e1,e2,Sem.run_bind,hg];exact hv,.p _ _ hrel⟩
     | _=>simp[zya]at hab
   | false=>
    rw[hbp]at h
    obtain⟨⟨r',ok'⟩,hab,hr⟩:=map_some h
    cases hr
    obtain⟨v,hv,hrel⟩:=zBk (P:=P) (M:=M) hab hok ha.p_inv hb.p_inv t (by intro c e;subst e;cases hbp) w
    have hg:=zhZ (P:=P) (op:=op) (t:=t) (x:=x) (y:=y) ha.p_inv hb.p_inv (by intro v e;subst e;simp[zya]at hab) w
    exact⟨v,by rw[Sem.run_bind,hg];exact hv,.p _ _ hrel⟩
  | _=>cases h
 | agg xs=>
  cases u' with
  | agg ys=>
   obtain⟨vx,rfl,hsx,hrx⟩:=zgv ha
   obtain⟨vy,rfl,hsy,hry⟩:=zgv hb
   dsimp only[zDQ]at h
   split at h
   .rename_i ht
    unfold zso at ht
    rw[Bool.and_eq_true,Bool.and_eq_true,Bool.not_eq_true',Bool.not_eq_true']at ht
    obtain⟨h1,h2,h3⟩:=ht
    have hu:P.underlying t=some (.struct (P.fieldsOf t)):=by
     unfold Program.fieldsOf
     split at h1
     .rename_i fs he;rw[he]
     .cases h1
    split at h
    .rename_i c hc
     have hg:=run_eqGuard_agg (P:=P) w op t x y vx vy h3
     have he:=(run_equalIn_agg (P:=P) w 9999 t vx vy hu h2).trans (zjH 9998 ha hb w hc)
     split at h
     .cases h
      refine⟨.bool c,?_,.p _ _ (.bool _)⟩
      rw[Sem.run_bind,hg,Result.andThen_ok,run_eql_struct,he];rfl
     .cases h
      refine⟨.bool (!c),?_,.p _ _ (.bool _)⟩
      rw[Sem.run_bind,hg,Result.andThen_ok,run_neq_struct,he];rfl
     .cases h
    .cases h
   .cases h
  | _=>cases h
 | _=>cases h
theorem zrF{t:TypeId}{lo hi:Option Operand}{x:Operand}{ρ:Operand->Value}{xs:List AV}{r:AV}{ok:Option Prop}
 (h:zuV P t lo.isSome hi.isSome xs=some (r,ok)) (hok:okP ok)
 (hx:zB γ M xs (ρ x::((lo.toList++hi.toList).map ρ))) (w:World):
 ∃ v,(Instr.sliceAt t (ρ x) (lo.map ρ) (hi.map ρ) none).run P w=.ok v w/\zp γ M r v:=by
 unfold zuV at h
 split at h
 .rename_i l
  cases lo <;> cases hi <;> dsimp only[Option.isSome]at h <;> first|(cases h;done)|skip
  cases hx with
  | cons ha _=>
   obtain⟨ht,he⟩:=zI h
   cases he
   obtain⟨e1,hm⟩:=ha.str_inv
   rw[zbm ht,e1]
   have:=zcf (P:=P) ht l none none (by simp) (by simp) w
   simp only[Option.map_none,List.take_length,List.drop_zero]at this
   exact⟨_,this,.p _ _ (.str _ hm)⟩
 .rename_i l kk i
  cases lo <;> cases hi <;> dsimp only[Option.isSome]at h <;> first|(cases h;done)|skip
  .rename_i j
   cases hx with
   | cons ha hx=>cases hx with
    | cons hb _=>
     obtain⟨ht,he⟩:=zI h
     cases he
     obtain⟨e1,hm⟩:=ha.str_inv
     have e2:=hb.int_inv.1
     rw[zbm ht,e1]
     have:=zcf (P:=P) ht l none (some (kk,i)) (by simp) (by intro k i he;cases he;exact hok) w
     simp only[Option.map_none,Option.map_some,List.drop_zero]at this ⊢
     rw[e2]
     refine⟨_,this,.p _ _ (.str _ ?_)⟩
     simp;omega
  .rename_i j
   cases hx with
   | cons ha hx=>cases hx with
    | cons hb _=>
     obtain⟨ht,he⟩:=zI h
     cases he
     obtain⟨e1,hm⟩:=ha.str_inv
     have e2:=hb.int_inv.1
     rw[zbm ht,e1]
     have:=zcf (P:=P) ht l (some (kk,i)) none (by intro k i he;cases he;exact hok) (by simp) w
     simp only[Option.map_none,Option.map_some,List.take_length]at this ⊢
     rw[e2]
     refine⟨_,this,.p _ _ (.str _ ?_)⟩
     simp;omega
 .rename_i l k1 i k2 j
  cases lo <;> cases hi <;> dsimp only[Option.isSome]at h <;> first|(cases h;done)|skip
  cases hx with
  | cons ha hx=>cases hx with
   | cons hb hx=>cases hx with
    | cons hc _=>
     obtain⟨ht,he⟩:=zI h
     unfold zLe at he
     cases he
     obtain⟨e1,hm⟩:=ha.str_inv
     have e2:=hb.int_inv.1
     have e3:=hc.int_inv.1
     rw[zbm ht,e1]
     have:=zcf (P:=P) ht l (some (k1,i)) (some (k2,j)) (by intro k i he;cases he;exact⟨hok.1,hok.2.1⟩) (by intro k i he;cases he;exact⟨by omega,hok.2.2⟩) w
     simp only[Option.map_some]at this ⊢
     rw[e2,e3]
     refine⟨_,this,.p _ _ (.str _ ?_)⟩
     simp;omega
 .rename_i k a l kk i
  cases he:zaZ P t with
  | none=>rw[he]at h;cases lo <;> cases hi <;> cases h
  | some k'=>
   rw[he]at h
   cases lo <;> cases hi <;> dsimp only[Option.isSome]at h <;> first|(cases h;done)|skip
   rename_i j
   cases hx with
   | cons ha hx=>cases hx with
    | cons hb _=>
     obtain⟨hk,hh⟩:=zI h
     cases hh
     have hk:k=k':=by simpa using hk
     subst hk
     have e2:=hb.int_inv.1
     obtain⟨h0,h1⟩:0<=i/\i<=(l.length:Int):=hok
     obtain⟨e,hu,hs⟩:=zh5 he
     have hel:P.elem t=e:=by simp[Program.elem,hu]
     obtain⟨m,rfl⟩:=Int.eq_ofNat_of_zero_le h0
     have hm:m<=l.length:=by omega
     have hrun:∀ (a':Option Addr) (cap:Nat),ρ x=.slice a' l.length cap->
      (Instr.sliceAt t (ρ x) ((some j).map ρ) ((none:Option Operand).map ρ) none).run P w=.ok (sliced a' m l.length cap k) w:=by
      intro a' cap e1
      have hs2:=run_slice_l (P:=P) (w:=w) t a' l.length cap (by rw[hel];exact hu) kk (m:Int) (by omega) (by omega)
      have h3:=run_sliceAt_slice (P:=P) (w:=w) t (ρ x) (some (ρ j)) none none (by rw[hel];exact hu)
      rw[e1,e2]at h3
      simp only[Option.map_none,Option.map_some,e1,e2]
      rw[h3,hs2,hel,yu hs]
      rfl
     have hp:=ha.p_inv
     generalize hv:ρ x=v at hp hrun
     cases hp with
     | listNil _ _ hn=>
      have hn:l.length=0:=hn
      have:=hrun none 0 (by rw[hn])
      refine⟨_,this,.p _ _ ?_⟩
      have hm0:m=0:=by omega
      subst hm0
      rw[show sliced none 0 l.length 0 k=.slice none 0 0 by simp[sliced,hn]]
      exact .listNil _ _ (by show(l.drop _).length=0;simp[hn])
     | listZero _ _ a0 hn=>
      have hn:l.length=0:=hn
      have:=hrun (some a0) 0 (by rw[hn])
      refine⟨_,this,.p _ _ ?_⟩
      have hm0:m=0:=by omega
      subst hm0
      rw[show sliced (some a0) 0 l.length 0 k=.slice (some a0) 0 0 by simp[sliced,hn]]
      exact .listZero _ _ _ (by show(l.drop _).length=0;simp[hn])
     | list _ _ b off cap g hmx hc hM hR=>
      have:=hrun (some ⟨b,off,none⟩) cap rfl
      refine⟨_,this,.p _ _ ?_⟩
      have hlen:(Rows.dat a (l.drop m)).n=l.length-m:=by show(l.drop m).length=_;simp
      have hc':l.length<=cap:=hc
      have hmx':l.length<=maxLen:=hmx
      show zR M (.list k (.dat a (l.drop m))) _
      have key:∀ off',(cap=m\/off'=off+m*k)->zR M (.list k (.dat a (l.drop m))) (.slice (some ⟨b,off',none⟩) (l.length-m) (cap-m)):=by
       intro off' ho
       rw[<-hlen]
       refine .list k _ b off' (cap-m) (fun p q=>g (m+p) q) (by rw[hlen];omega) (by rw[hlen];omega) ?_ ?_
       .intro p q hp hq
        rw[hlen]at hp
        rcases ho with ho|rfl
        .omega
        .have:=hM (m+p) q (by show _<l.length;omega) hq
         rw[show off+m*k+p*k+q=off+(m+p)*k+q by rw[Nat.add_mul];omega]
         exact this
       .intro p q hp hq
        rw[hlen]at hp
        have:=hR (m+p) q (by show _<l.length;omega) hq
        have e3:(Rows.dat a (l.drop m)).f p q=(Rows.dat a l).f (m+p) q:=by
         show cell a ((l.drop m).getD p (dfl a)) q=cell a (l.getD (m+p) (dfl a)) q
         simp[List.getD_eq_getElem?_getD,List.getElem?_drop]
        rw[e3];exact this
      unfold sliced
      by_cases hcm:cap=m
      .rw [if_pos hcm];exact key _ (.inl hcm)
      .rw [if_neg hcm]
       simp only[Option.map_some,zad]
       exact key _ (.inr rfl)
 .cases h
theorem zp.tup_inv{cs:List AV}{v:Value}(h:zp γ M (.tup cs) v):∃ vs:Array Value,v=.tuple vs/\vs.size=cs.length/\∀ i,i<cs.length->zp γ M (cs.getD i .any) (vs.getD i undef):=by
 cases h with|tup cs vs hs h=>exact⟨vs,rfl,hs,h⟩
theorem zp.agg_inv{cs:List AV}{v:Value}(h:zp γ M (.agg cs) v):∃ vs:Array Value,v=.agg vs/\vs.size=cs.length/\∀ i,i<cs.length->zp γ M (cs.getD i .any) (vs.getD i undef):=by
 cases h with|agg cs vs hs h=>exact⟨vs,rfl,hs,h⟩
theorem zGB(o:Oper)(ρ:Operand->Value)(hl:Lits ρ){xs:List AV}{r:AV}{ok:Option Prop}(h:evP P o.op xs=some (r,ok))(hok:okP ok)
 (hx:zB γ M xs (o.op.operands.toList.map ρ)) (w:World):∃ v,(execOp ρ o).run P w=.ok (.value v) w/\zp γ M r v:=by
 obtain⟨dst,op,type,pos,after,guard⟩:=o
 dsimp only at hx h
 cases op <;> simp only[evP,reduceCtorEq]at h <;> simp only[Op.operands,List.map_cons,List.map_nil]at hx
 case move x=>
  unfold ev1 at h;split at h
  .cases h;cases hx with|cons h1 _=>exact⟨_,by simp[execOp],h1⟩
  .cases h
 case assign x=>
  unfold ev1 at h;split at h
  .cases h;cases hx with|cons h1 _=>exact⟨_,by simp[execOp],h1⟩
  .cases h
 case pick c x y=>
  unfold zKF at h
  split at h
  .cases hx with
   | cons hc hx=>cases hx with
    | cons ha hx=>cases hx with
     | cons hb _=>
      have hc:=hc.bool_inv
      have hrun:∀ cb,ρ c=.bool cb->(execOp ρ ⟨dst,.pick c x y,type,pos,after,guard⟩).run P w=.ok (.value (if cb then ρ x else ρ y)) w:=fun cb hcb=>by
       simp[execOp,hcb,asBool]
      split at h
      .rename_i hy
       have:=zeL hy
       subst this
       exact⟨_,hrun _ hc,zxN h hok ha (hl _)⟩
      .split at h
       .rename_i hy
        have:=zeL hy
        subst this
        exact⟨_,hrun _ hc,zA4 h hok hb (hl _)⟩
       .cases h
  .cases h
 case binOp op t x y yt=>
  cases hx with
  | cons ha hx=>cases hx with
   | cons hb hx=>cases hx with
    | nil=>
     obtain⟨v,hv,hrel⟩:=zxM (P:=P) h hok ha hb x y w
     exact⟨v,by simp only[execOp];rw[Sem.run_bind,hv];rfl,hrel⟩
 case unOp op t x=>
  unfold evUn at h
  split at h
  .cases hx with
   | cons ha _=>
    have e:=ha.bool_inv
    cases op <;> dsimp only at h <;> first
     | (cases h;done)
     | (cases h;exact⟨_,by simp[execOp,Op.unary,e],.p _ _ (.bool _)⟩)
  .cases hx with
   | cons ha _=>
    have e:=ha.int_inv.1
    cases op <;> dsimp only at h <;> first
     | (cases h;done)
     | (cases h;exact⟨_,by simp only[execOp,Op.unary,e,Op.intArith];rfl,.p _ _ (zhn hok)⟩)
  .cases h
 case convert s d x=>
  unfold zKI at h
  split at h
  .cases hx with
   | cons ha _=>
    split at h
    .rename_i hk
     obtain⟨r',hab,hr⟩:=map_some h
     cases hr
     obtain⟨v,hv,hrel⟩:=zx9 (P:=P) (M:=M) hab (zxr hk) ha.p_inv w
     exact⟨v,by simp[execOp,hv],.p _ _ hrel⟩
    .cases h
  .cases h
 case index t x i=>
  unfold zDN at h
  split at h
  .cases hx with
   | cons ha hx=>cases hx with
    | cons hb _=>
     obtain⟨ht,he⟩:=zI h
     cases he
     have e1:=ha.str_inv.1
     have e2:=hb.int_inv.1
     exact⟨_,by simp[execOp,e1,e2,zrw ht _ _ _ hok.1 hok.2],.p _ _ (.int _ _ (zAM _))⟩
  .cases h
 case slice t x lo hi mx=>
  cases mx with
  | some m=>cases h
  | none=>
   dsimp only at h
   have hx':zB γ M xs (ρ x::((lo.toList++hi.toList).map ρ)):=by
    cases lo <;> cases hi <;> simpa using hx
   obtain⟨v,hv,hrel⟩:=zrF (P:=P) h hok hx' w
   exact⟨v,by simp[execOp,hv],hrel⟩
 case extract x i=>
  unfold zs3 at h
  split at h
  .cases hx with
   | cons ha _=>
    split at h
    .rename_i hb
     have hb:i<_:=Nat.le_of_ble_eq_true hb
     cases h
     obtain⟨vs,hv,hs,hr⟩:=ha.tup_inv
     obtain⟨u,hu1,hu2⟩:∃ u,vs[i]?=some u/\vs.getD i undef=u:=
      ⟨vs[i]'(by omega),Array.getElem?_eq_getElem (by omega),by rw[Array.getD_eq_getD_getElem?,Array.getElem?_eq_getElem (by omega)];rfl⟩
     exact⟨u,by simp[execOp,Instr.extract,hv,hu1],hu2 ▸ hr i hb⟩
    .cases h
  .cases h
 case field t x f=>
  unfold zDO at h
  split at h
  .cases hx with
   | cons ha _=>
    split at h
    .rename_i fd hfd
     obtain⟨r',hab,hr⟩:=map_some h
     cases hr
     obtain⟨fs,hu,hf⟩:=zjD hfd
     obtain⟨vs,hv,hs,hr⟩:=zgv ha
     obtain⟨v,hp,hrel⟩:=zgu (P:=P) hab hs hr w
     exact⟨v,by simp[execOp,Instr.field,run_underlying hu,hf,hv,asAgg,hp],hrel⟩
    .cases h
  .cases h
 case fieldAddr t x f=>
  unfold zmG at h
  split at h
  .cases hx with
   | cons ha _=>
    split at h
    .rename_i fd hfd
     split at h
     .rename_i n hn
      obtain⟨r',hab,hr⟩:=map_some h
      cases hr
      obtain⟨fs,hu,hf⟩:=zjD hfd
      obtain⟨b,off,hv,hrel⟩:=znw hab ha
      exact⟨_,by simp[execOp,Instr.fieldAt,run_underlying hu,hf,hv,Instr.sureAddr,fieldPlace,yu hn,zad],hrel⟩
     .cases h
    .cases h
  .cases h
 case indexAddr t x i=>
  unfold zmF at h
  split at h
  .rename_i k R kk j
   cases hx with
   | cons ha hx=>cases hx with
    | cons hb _=>
     split at h
     .rename_i k' hk'
      obtain⟨hbq,he⟩:=zI h
      cases he
      have hkk:=Nat.eq_of_beq_eq_true hbq
      subst hkk
      have e2:=hb.int_inv.1
      generalize hv:ρ x=vx at ha
      cases ha.p_inv with
      | listNil k R h0=>exact absurd hok (by omega)
      | listZero k R _ h0=>exact absurd hok (by omega)
      | list k R b off cap g hm hc hM hf=>
       exact⟨.pointer (some ⟨b,off+j.toNat*k,none⟩),by simp[execOp,hv,e2,zal hk' _ _ _ _ _ _ hok.1 hok.2],
        .p _ _ (.box _ _ _ _ (fun q=>g _ q) (fun q hq=>hM _ q (by omega) hq) (fun q hq=>hf _ q (by omega) hq))⟩
     .cases h
  .rename_i l kk j
   cases hx with
   | cons ha hx=>cases hx with
    | cons hb _=>
     split at h
     .rename_i k' hk'
      obtain⟨hbq,he⟩:=zI h
      cases he
      have hkk:=Nat.eq_of_beq_eq_true hbq
      subst hkk
      have e2:=hb.int_inv.1
      rcases zhk ha.p_inv with⟨rfl,_⟩|⟨b,off,cap,hv,hm,hc,hM⟩
      .exact (by have:=hok;simp only[List.length_nil]at this;omega:False).elim
      .have hlt:j.toNat<l.length:=by omega
       refine⟨.pointer (some ⟨b,off+j.toNat*1,none⟩),by simp only[execOp,hv,e2,Sem.run_bind,zal hk' _ _ _ _ _ _ hok.1 hok.2];rfl,
        .p _ _ (.box _ _ _ _ (fun _=>zat (l.getD j.toNat 0)) (fun q hq=>?_) (fun q hq=>.int _ _ (zAM _)))⟩
       have hj0:q=0:=by omega
       subst hj0
       have:=hM _ _ (List.getElem?_eq_getElem hlt)
       simp only[Nat.mul_one,Nat.add_zero]
       rw[this,List.getD_eq_getElem?_getD,List.getElem?_eq_getElem hlt]
       rfl
     .cases h
  .cases h
 case makeFunc fn a b=>
  cases h
  have hx':zB γ M xs ((a.toList++b.toList).map ρ):=by simpa using hx
  have h1:=hx'.take a.size
  have h2:=hx'.drop a.size
  have e1:((a.toList++b.toList).map ρ).take a.size=a.toList.map ρ:=by rw[List.map_append,List.take_left'];simp
  have e2:((a.toList++b.toList).map ρ).drop a.size=b.toList.map ρ:=by rw[List.map_append,List.drop_left'];simp
  rw[e1]at h1
  rw[e2]at h2
  refine⟨.func fn (a.map ρ) (b.map ρ),by simp[execOp,Instr.makeFunc],.clo _ _ _ _ _ ?_ ?_ ?_ ?_⟩
  .have:=h1.length;simpa using this
  .have:=h2.length;simpa using this
  .intro i hi
   have:=h1.get i hi
   simpa[Array.getD_eq_getD_getElem?,List.getD_eq_getElem?_getD]using this
  .intro i hi
   have:=h2.get i hi
   simpa[Array.getD_eq_getD_getElem?,List.getD_eq_getElem?_getD]using this
 case nilCheck x=>
  unfold zpR at h
  split at h
  .cases h
   cases hx with
   | cons ha _=>
    generalize hv:ρ x=v at ha
    cases ha with
    | ref id off b hb=>exact⟨_,by simp[execOp,hv],.ref _ _ _ hb⟩
  .cases h
   cases hx with
   | cons ha _=>
    generalize hv:ρ x=v at ha
    cases ha.p_inv with
    | box n f b off g hM hf=>exact⟨_,by simp[execOp,hv],.p _ _ (.box _ _ _ _ _ hM hf)⟩
  .cases h
 case call c=>
  obtain⟨callee,args,ts⟩:=c
  cases callee with
  | value f=>cases h
  | invoke r m=>cases h
  | builtin b=>
   dsimp only[zDP]at h
   have hx':zB γ M xs (args.toList.map ρ):=by simpa[Call.operands]using hx
   have hrun:∀ v,(builtin b ts type (args.map fun|.const _=>true|_=>false) (args.map ρ)).run P w=.ok (.value v) w->
    (execOp ρ ⟨dst,.call ⟨.builtin b,args,ts⟩,type,pos,after,guard⟩).run P w=.ok (.value v) w:=fun v hv=>by
    simp only[execOp,resolve,Sem.run_bind,Sem.run_pure,Result.andThen_ok,invoke]
    exact hv
   unfold zs4 at h
   cases args with
   | mk al=>
   dsimp only at hx'
   cases b <;> dsimp only at h <;> first|(cases h;done)|skip
   case len=>
    cases hts:ts[0]? with
    | none=>rw[hts]at h;cases h
    | some t=>
     rw[hts]at h
     dsimp only at h
     generalize hvs:al.map ρ=vs at hx'
     have hal:(List.toArray al).map ρ=vs.toArray:=by rw[<-hvs];simp
     rw[hal]at hrun
     clear hvs hal
     cases hx' with
     | nil=>cases h
     | cons ha ht=>
      cases ht with
      | cons _ _=>simp[zQK]at h
      | nil=>
       rename_i u a
       cases u with
       | p y=>
        cases y with
        | str l=>
         obtain⟨hk,he⟩:=zI h;cases he
         obtain⟨e1,hm⟩:=ha.str_inv
         have hsz:(⟨l.toArray⟩:ByteArray).size=l.length:=rfl
         exact⟨.int .i64 (l.length:Int),hrun _ (by simp only[builtin,Builtin.len_,List.getElem?_toArray,List.getElem?_cons_zero,hts,e1,Sem.run_bind,run_underlying (zby hk),Result.andThen_ok,goInt,hsz];rfl),.p _ _ (.int _ _ (yU hm))⟩
        | bytes l=>
         obtain⟨hk,he⟩:=zI h;cases he
         obtain⟨e,hu⟩:=yG hk
         rcases zhk ha.p_inv with⟨rfl,rfl⟩|⟨b,off,cap,rfl,hm,_,_⟩
         .exact ⟨_,hrun _ (by simp[builtin,Builtin.len_,hts,run_underlying hu,goInt]),.p _ _ (.int _ _ (yU (n:=0) (by simp[maxLen])))⟩
         .exact ⟨_,hrun _ (by simp[builtin,Builtin.len_,hts,run_underlying hu,goInt]),.p _ _ (.int _ _ (yU hm))⟩
        | list k R=>
         obtain⟨hk,he⟩:=zI h;cases he
         obtain⟨e,hu⟩:=yG hk
         cases ha.p_inv with
         | listNil k R h0=>rw[h0];exact⟨_,hrun _ (by simp[builtin,Builtin.len_,hts,run_underlying hu,goInt]),.p _ _ (.int _ _ (yU (n:=0) (by simp[maxLen])))⟩
         | listZero k R _ h0=>rw[h0];exact⟨_,hrun _ (by simp[builtin,Builtin.len_,hts,run_underlying hu,goInt]),.p _ _ (.int _ _ (yU (n:=0) (by simp[maxLen])))⟩
         | list k R b off cap g hm hc hM hf=>exact⟨_,hrun _ (by simp[builtin,Builtin.len_,hts,run_underlying hu,goInt]),.p _ _ (.int _ _ (yU hm))⟩
        | nil=>
         obtain⟨hk,he⟩:=zI h;cases he
         obtain⟨e,hu⟩:=yG hk
         cases ha.p_inv
         exact⟨_,hrun _ (by simp[builtin,Builtin.len_,hts,run_underlying hu,goInt]),.p _ _ (.int _ _ (yU (n:=0) (by simp[maxLen])))⟩
        | _=>cases h
       | _=>cases h
   case min=>
    generalize hvs:al.map ρ=vs at hx'
    have hal:(List.toArray al).map ρ=vs.toArray:=by rw[<-hvs];simp
    rw[hal]at hrun
    clear hvs hal
    cases hx' with
    | nil=>cases h
    | cons ha ht=>
     unfold zQI at h
     split at h
     .rename_i heq
      cases heq
      obtain⟨n,hn,he⟩:=map_some h
      cases he
      obtain⟨e1,hm⟩:=ha.int_inv
      obtain⟨h1,h2⟩:=zrB (P:=P) _ _ _ _ hn ht hm w
      exact⟨_,hrun _ (by simp only[builtin,Builtin.min_,e1,Sem.run_bind];rw[h1];rfl),.p _ _ (.int _ _ h2)⟩
     .cases h
   case max=>
    generalize hvs:al.map ρ=vs at hx'
    have hal:(List.toArray al).map ρ=vs.toArray:=by rw[<-hvs];simp
    rw[hal]at hrun
    clear hvs hal
    cases hx' with
    | nil=>cases h
    | cons ha ht=>
     unfold zQJ at h
     split at h
     .rename_i heq
      cases heq
      obtain⟨n,hn,he⟩:=map_some h
      cases he
      obtain⟨e1,hm⟩:=ha.int_inv
      obtain⟨h1,h2⟩:=zrC (P:=P) _ _ _ _ hn ht hm w
      exact⟨_,hrun _ (by simp only[builtin,Builtin.max_,e1,Sem.run_bind];rw[h1];rfl),.p _ _ (.int _ _ h2)⟩
     .cases h
end Go.Am
/-! Operations that touch memory. -/
namespace Go.Am
open Go Go.RowKit
variable {P:Program}{γ γ':Nat->Option G}{M M':Mem}{C:Ctx}{s s':S}{a a':Act}{w w':World}
theorem OM.keep{id:Nat}{o:AObj}(h:OM γ M w id o)(hγ:GLe γ γ')(hM:MLe M M')
 (hb:∀ g b,γ id=some g->g.blk=some b->w'.heap[b]?=w.heap[b]?/\M' b=M b):OM γ' M' w' id o:=by
 have arr:∀ {e mu k n vs a cap},γ id=some (.arr a k n cap)->zb1 M w e mu k n vs a cap->zb1 M' w' e mu k n vs a cap:=by
  intro e mu k n vs a cap hg hA
  refine⟨?_,hA.one,hA.len,?_⟩
  .obtain ⟨h1,h2⟩:=hA.own
   refine⟨h1,?_⟩
   rcases h2 with h2|⟨g,cap',cur,hv,hge,hh,rest⟩
   .exact .inl h2
   .refine .inr ⟨g,cap',cur,hv,hge,?_,rest⟩
    cases a with
    | none=>cases hv
    | some a => have e : a = g := by simp only [yX, Option.map_some, Value.slice.injEq, Option.some.injEq, Addr.mk.injEq] at hv; exact hv.1.1
                subst e;rw[(hb _ a hg rfl).1];exact hh
  .intro g hg'
   subst hg'
   rw[(hb _ g hg rfl).2]
   exact hA.mem g rfl
 cases o with
 | cells cs=>
  obtain⟨b,vs,e,hg,hh,hs,hc,hm⟩:=h
  have:=hb _ b hg rfl
  exact⟨b,vs,e,hγ _ _ hg,by rw[this.1];exact hh,hs,fun j hj=>⟨(hc j hj).1.mono hγ hM,(hc j hj).2⟩,by rw[this.2];exact hm⟩
 | barr e mu l=>
  obtain⟨a,cap,hg,hA⟩:=h
  exact⟨a,cap,hγ _ _ hg,arr hg hA⟩
 | larr e mu k R=>
  obtain⟨a,cap,vs,hg,hr,hA⟩:=h
  exact⟨a,cap,vs,hγ _ _ hg,fun i j hi hj=>let ⟨v,hv,hp⟩:=hr i j hi hj;⟨v,hv,hp.mono hM⟩,arr hg hA⟩
 | bcv e l=>
  obtain⟨g,cur,hg,hh,ht,hc,hl,hm⟩:=h
  have:=hb _ g hg rfl
  exact⟨g,cur,hγ _ _ hg,by rw[this.1];exact hh,ht,hc,hl,by rw[this.2];exact hm⟩
 | bldr T a=>
  obtain⟨b,v0,v1,hg,hh,h0,h1,h2,hm⟩:=h
  have:=hb _ b hg rfl
  exact⟨b,v0,v1,hγ _ _ hg,by rw[this.1];exact hh,h0,h1.mono hγ hM,h2,by rw[this.2];exact hm⟩
 | raw o=>
  obtain⟨b,hg,hh,hm⟩:=h
  have:=hb _ b hg rfl
  exact⟨b,hγ _ _ hg,by rw[this.1];exact hh,by rw[this.2];exact hm⟩
 | mp e l=>
  obtain⟨b,es,cl,hg,hh,hr,hm⟩:=h
  have:=hb _ b hg rfl
  exact⟨b,es,cl,hγ _ _ hg,by rw[this.1];exact hh,hr.mono hM,by rw[this.2];exact hm⟩
theorem OM.ghost{id:Nat}{o:AObj}(h:OM γ M w id o):∃ g,γ id=some g:=by
 cases o with
 | cells cs=>obtain⟨b,vs,e,hg,_⟩:=h;exact⟨_,hg⟩
 | barr e mu l=>obtain⟨a,cap,hg,_⟩:=h;exact⟨_,hg⟩
 | larr e mu k R=>obtain⟨a,cap,vs,hg,_⟩:=h;exact⟨_,hg⟩
 | bcv e l=>obtain⟨g,cur,hg,_⟩:=h;exact⟨_,hg⟩
 | bldr T a=>obtain⟨b,v0,v1,hg,_⟩:=h;exact⟨_,hg⟩
 | raw o=>obtain⟨b,hg,_⟩:=h;exact⟨_,hg⟩
 | mp e l=>obtain⟨b,es,cl,hg,_⟩:=h;exact⟨_,hg⟩
theorem StG.master(h:StG C γ M s a w)(hγ:GLe γ γ')(hM:MLe M M')
 (hsl:∀ t,zp γ' M' (s'.sl t) (a'.tmps.getD t undef)) (hnt:a'.tmps.size=C.nt) (hdf:a'.defers=C.dl)
 (tgt:Nat) (hob:∀ i,i≠tgt->s'.ob i=none\/s'.ob i=s.ob i)
 (hγne:∀ i,i≠tgt->γ' i=γ i)
 (hus:∀ i,s'.us i=false->s.us i=false/\i≠tgt)
 (htgt:∀ o,s'.ob tgt=some o->OM γ' M' w' tgt o)
 (hkeep:∀ i g b,i≠tgt->s'.ob i≠none->γ i=some g->g.blk=some b->w'.heap[b]?=w.heap[b]?/\M' b=M b)
 (hsep:∀ i g g' b,i≠tgt->s'.ob i≠none->s'.ob tgt≠none->γ i=some g->γ' tgt=some g'->g.blk=some b->g'.blk=some b->False)
 (hlo:∀ g b,s'.ob tgt≠none->γ' tgt=some g->g.blk=some b->(C.w0.heap.size<=b\/C.own b)/\b<w'.heap.size)
 (hsz:w.heap.size<=w'.heap.size)
 (hmem:MOk M' w') (hnew:∀ b,b<C.w0.heap.size->¬ C.own b->M' b=M b)
 (hfr:Fr C w'):StG C γ' M' s' a' w':=by
 have old:∀ i,i≠tgt->s'.ob i≠none->s'.ob i=s.ob i:=fun i hi hn=>(hob i hi).resolve_left hn
 refine⟨hsl,?_,?_,?_,?_,hmem,h.le.trans hM,fun b hb ho=>(hnew b hb ho).trans (h.new b hb ho),hfr,hdf,hnt,h.gl.trans hγ⟩
 .intro i o hi
  by_cases ht:i=tgt
  .subst ht;exact htgt o hi
  .have hn:s'.ob i≠none:=by rw[hi];simp
   have e:=old i ht hn
   exact(h.ob i o (e ▸ hi)).keep hγ hM fun g b hg hb=>hkeep i g b ht hn hg hb
 .intro i hi
  obtain⟨h1,h2⟩:=hus i hi
  rw[hγne i h2];exact h.us i h1
 .intro i i' g g' b hi hi' hg hg' hb hb'
  by_cases ht:i=tgt
  .by_cases ht':i'=tgt
   .rw [ht,ht']
   .subst ht
    rw[hγne i' ht']at hg'
    exact(hsep i' g' g b ht' hi' hi hg' hg hb' hb).elim
  .by_cases ht':i'=tgt
   .subst ht'
    rw[hγne i ht]at hg
    exact(hsep i g g' b ht hi hi' hg hg' hb hb').elim
   .rw [hγne i ht]at hg
    rw[hγne i' ht']at hg'
    exact h.sep i i' g g' b (old i ht hi ▸ hi) (old i' ht' hi' ▸ hi') hg hg' hb hb'
 .intro i g b hi hg hb
  by_cases ht:i=tgt
  .subst ht;exact hlo g b hi hg hb
  .rw [hγne i ht]at hg
   have:=h.lo i g b (old i ht hi ▸ hi) hg hb
   exact⟨this.1,by omega⟩
def yo(σ:Nat->AV)(dst:Option Nat)(v:AV):Nat->AV:=
 match dst with
 | some d=>upd σ d v
 | none=>σ
def zcM(s:S)(dst:Option Nat)(v:AV):S:={ s with sl:=yo s.sl dst v }
def yL(nt:Nat)(dst:Option Nat):Bool:=
 match dst with
 | some d=>Nat.blt d nt
 | none=>true
theorem zg5{dst:Option Nat}(hd:yL a.tmps.size dst=true){σ:Nat->AV}(h:∀ t,zp γ M (σ t) (a.tmps.getD t undef)){r:AV}{v:Value}(hr:zp γ M r v):
 ∀ t,zp γ M (yo σ dst r t) ((a.put dst v).tmps.getD t undef):=by
 intro t
 cases dst with
 | none=>exact h t
 | some d=>
  have hd:d<a.tmps.size:=Nat.le_of_ble_eq_true hd
  by_cases ht:t=d
  .subst ht
   have e:(a.put (some t) v).tmps.getD t undef=v:=by
    simp[Act.put,Array.getD_eq_getD_getElem?,hd]
   rw[e];dsimp only[yo];rw[zw];exact hr
  .have e:(a.put (some d) v).tmps.getD t undef=a.tmps.getD t undef:=by
    simp only[Act.put,Array.getD_eq_getD_getElem?]
    rw[Array.getElem?_setIfInBounds_ne (fun e=>ht e.symm)]
   rw[e];dsimp only[yo];rw[zC _ _ ht];exact h t
theorem zeE(a:Act)(dst:Option Nat)(v:Value):(a.put dst v).tmps.size=a.tmps.size:=by
 cases dst <;> simp[Act.put]
theorem zb6(a:Act)(dst:Option Nat)(v:Value):(a.put dst v).defers=a.defers:=by
 cases dst <;> rfl
theorem StG.put(h:StG C γ M s a w){dst:Option Nat}(hd:yL C.nt dst=true)(hM:MLe M M')(hsz:w.heap.size<=w'.heap.size)
 (hold:∀ b,b<w.heap.size->w'.heap[b]?=w.heap[b]?/\M' b=M b) (hmem:MOk M' w')
 (hos:w'.os=w.os) (htape:w'.tape=w.tape) (hout:w'.output=w.output)
 {r:AV} {v:Value} (hr:zp γ M' r v):StG C γ M' (zcM s dst r) (a.put dst v) w':=by
 have hsl:=zg5 (dst:=dst) (by rw[h.nt];exact hd) (fun t=>(h.sl t).mono (GLe.refl γ) hM) hr
 have e1:(zcM s dst r).ob=s.ob:=rfl
 have e2:(zcM s dst r).us=s.us:=rfl
 refine⟨hsl,?_,by rw[e2];exact h.us,by rw[e1];exact h.sep,?_,hmem,h.le.trans hM,?_,?_,by rw[zb6];exact h.df,by rw[zeE];exact h.nt,h.gl⟩
 .intro id o ho
  rw[e1]at ho
  refine(h.ob id o ho).keep (GLe.refl γ) hM fun g b hg hb=>?_
  have:=h.lo id g b (by rw[ho];simp) hg hb
  exact hold b this.2
 .intro id g b ho hg hb
  rw[e1]at ho
  have:=h.lo id g b ho hg hb
  exact⟨this.1,by omega⟩
 .intro b hb ho
  have:=h.fr.size
  rw[(hold b (by omega)).2];exact h.new b hb ho
 .have:=h.fr
  exact⟨hos.trans this.os,htape.trans this.tape,hout.trans this.output,Nat.le_trans this.size hsz,fun b hb ho=>(hold b (by have:=this.size;omega)).1.trans (this.block b hb ho),this.tab⟩
theorem StG.birth(h:StG C γ M s a w){d:Nat}(hd:yL C.nt (some d)=true)(hu:s.us d=false)(hM:MLe M M')(hsz:w.heap.size<=w'.heap.size)
 (hold:∀ b,b<w.heap.size->w'.heap[b]?=w.heap[b]?/\M' b=M b) (hmem:MOk M' w')
 (hos:w'.os=w.os) (htape:w'.tape=w.tape) (hout:w'.output=w.output)
 {g:G} (hg:∀ b,g.blk=some b->w.heap.size<=b/\b<w'.heap.size) {o:AObj} (ho:OM (upd γ d (some g)) M' w' d o)
 {r:AV} {v:Value} (hr:zp (upd γ d (some g)) M' r v):
 StG C (upd γ d (some g)) M' { sl:=upd s.sl d r,ob:=upd s.ob d (some o),us:=upd s.us d true } (a.put (some d) v) w':=by
 have hγ:GLe γ (upd γ d (some g)):=by
  intro i g' hi
  by_cases e:i=d
  .subst e;rw[h.us i hu]at hi;cases hi
  .rw [zC _ _ e];exact hi
 have hne:∀ i,i≠d->s.ob i≠none->∀ g b,γ i=some g->g.blk=some b->b<w.heap.size:=fun i _ ho g b hg hb=>(h.lo i g b ho hg hb).2
 refine h.master (s':={ sl:=upd s.sl d r,ob:=upd s.ob d (some o),us:=upd s.us d true }) hγ hM
  (zg5 (dst:=some d) (by rw[h.nt];exact hd) (fun t=>(h.sl t).mono hγ hM) hr) (by rw[zeE];exact h.nt) (by rw[zb6];exact h.df) d
  (fun i hi=>.inr (zC _ _ hi)) (fun i hi=>zC _ _ hi) ?_ ?_ ?_ ?_ ?_ hsz hmem ?_ ?_
 .intro i hi
  dsimp only at hi
  by_cases e:i=d
  .subst e;rw[zw]at hi;cases hi
  .rw [zC _ _ e]at hi;exact⟨hi,e⟩
 .intro o' ho'
  dsimp only at ho'
  rw[zw]at ho';cases ho';exact ho
 .intro i g' b hi hob hgi hb
  dsimp only at hob
  rw[zC _ _ hi]at hob
  exact hold b (hne i hi hob g' b hgi hb)
 .intro i g1 g2 b hi hob _ hg1 hg2 hb1 hb2
  dsimp only at hob
  rw[zC _ _ hi]at hob
  rw[zw]at hg2;cases hg2
  have:=hne i hi hob g1 b hg1 hb1
  have:=(hg b hb2).1
  omega
 .intro g' b _ hg' hb
  rw[zw]at hg';cases hg'
  have:=hg b hb
  have:=h.fr.size
  exact⟨.inl (by omega),by omega⟩
 .intro b hb _
  have:=h.fr.size
  exact(hold b (by omega)).2
 .have:=h.fr
  exact⟨hos.trans this.os,htape.trans this.tape,hout.trans this.output,Nat.le_trans this.size hsz,fun b hb ho=>(hold b (by have:=this.size;omega)).1.trans (this.block b hb ho),this.tab⟩
end Go.Am
/-! Operations that read memory. -/
namespace Go.Am
open Go Go.RowKit
variable {P:Program}{γ γ':Nat->Option G}{M M':Mem}{C:Ctx}{s s':S}{a a':Act}{w w':World}
def zmM(P:Program)(t:TypeId)(n:Nat)(x:Nat->AV):Option AV:=
 match zlR P t,zaH P t with
 | some true,some m=>match Nat.ble m n with
  | true=>some (.agg ((List.range m).map x))
  | false=>none
 | some false,some _=>match Nat.blt 0 n with
  | true=>some (x 0)
  | false=>none
 | _,_=>none
theorem zbz{t:TypeId}{n:Nat}{x:Nat->AV}{r:AV}(h:zmM P t n x=some r){b off:Nat}{g:Nat->Value}
 (hc:∀ j,j<n->w.cell? ⟨b,off+j,none⟩=some (g j)) (hx:∀ j,j<n->zp γ M (x j) (g j)):
 ∃ v,(loadVar t ⟨b,off,none⟩).run P w=.ok v w/\zp γ M r v:=by
 unfold zmM at h
 cases ha:zlR P t with
 | none=>rw[ha]at h;cases h
 | some bb=>
  cases hz:zaH P t with
  | none=>rw[ha,hz]at h;cases bb <;> cases h
  | some m=>
   rw[ha,hz]at h
   cases bb with
   | true=>
    dsimp only at h
    split at h
    .rename_i hb
     have hb:=Nat.le_of_ble_eq_true hb
     cases h
     have hl:=run_loadCells (P:=P) w ⟨b,off,none⟩ m g (fun j hj=>by rw[zad];exact hc j (by omega))
     refine⟨.agg ((List.range m).map g).toArray,by simp[loadVar,zg1 ha,yu hz,hl],.agg _ _ (by simp) ?_⟩
     intro i hi
     have hi':i<m:=by simpa using hi
     have:=hx i (by omega)
     simpa[List.getD_eq_getElem?_getD,Array.getD_eq_getD_getElem?,hi']using this
    .cases h
   | false=>
    dsimp only at h
    split at h
    .rename_i hb
     have hb:0<n:=Nat.le_of_ble_eq_true hb
     cases h
     have:=hc 0 hb
     rw[Nat.add_zero]at this
     exact⟨g 0,by simp only[loadVar,Sem.run_bind,zg1 ha,Result.andThen_ok];simp[run_load,this],hx 0 hb⟩
    .cases h
def zcL(P:Program)(ob:Nat->Option AObj)(t:TypeId):List AV->Option (AV×Option Prop)
 | [.ref id off]=>match ob id with
  | some (.cells cs)=>(zmM P t (cs.length-off) (fun j=>cs.getD (off+j) .any)).map fun r=>(r,none)
  | some (.bldr _ x)=>match off with
   | 1=>(zmM P t 1 (fun _=>x)).map fun r=>(r,none)
   | _=>none
  | _=>none
 | [.p (.box n f)]=>(zmM P t n (fun j=>.p (f j))).map fun r=>(r,none)
 | [.aptr id i j]=>match ob id with
  | some (.barr _ _ l)=>match j with
   | 0=>(zmM P t 1 (fun _=>.p (.int .u8 ((l.getD i 0).toNat:Int)))).map fun r=>(r,some (i<l.length))
   | _=>none
  | some (.bcv _ l)=>match j with
   | 0=>(zmM P t 1 (fun _=>.p (.int .u8 ((l.getD i 0).toNat:Int)))).map fun r=>(r,some (i<l.length))
   | _=>none
  | some (.larr _ _ k R)=>(zmM P t (k-j) (fun q=>.p (R.f i (j+q)))).map fun r=>(r,some (i<R.n))
  | _=>none
 | _=>none
def zlV(P:Program)(ob:Nat->Option AObj)(t:TypeId):List AV->Option (AV×Option Prop)
 | [.arr id]=>match ob id with
  | some (.barr _ _ l)=>yV (yK P t) (.p (.int .i64 (l.length:Int)),none)
  | some (.larr _ _ _ R)=>yV (yK P t) (.p (.int .i64 (R.n:Int)),none)
  | some (.bcv _ l)=>yV (yK P t) (.p (.int .i64 (l.length:Int)),none)
  | _=>none
 | _=>none
def zao(P:Program)(ob:Nat->Option AObj)(t:TypeId):List AV->Option (AV×Option Prop)
 | [.arr id,.p (.int _ i)]=>match ob id,zaZ P t with
  | some (.barr _ _ l),some k=>yV (Nat.beq 1 k) (.aptr id i.toNat 0,some (0<=i/\i<(l.length:Int)))
  | some (.bcv _ l),some k=>yV (Nat.beq 1 k) (.aptr id i.toNat 0,some (0<=i/\i<(l.length:Int)))
  | some (.larr _ _ k' R),some k=>yV (Nat.beq k' k) (.aptr id i.toNat 0,some (0<=i/\i<(R.n:Int)))
  | _,_=>none
 | _=>none
def zaF(P:Program)(t:TypeId):Bool:=
 match zdn P t with
 | some e=>match P.underlying e with|some (.int .u8)=>true|_=>false
 | none=>false
def zjE(P:Program)(ob:Nat->Option AObj)(s d:TypeId):List AV->Option (AV×Option Prop)
 | [.arr id]=>match ob id with
  | some (.barr _ _ l)=>yV (zaF P s&&zaY P d) (.p (.str l),none)
  | some (.bcv _ l)=>yV (zaF P s&&zaY P d) (.p (.str l),none)
  | _=>none
 | [.p (.bytes l)]=>yV (zaF P s&&zaY P d) (.p (.str l),none)
 | [.p .nil]=>yV (zaF P s&&zaY P d) (.p (.str []),none)
 | _=>none
def yE{e:Ec}:List (Int×Elt e)->Int->Elt e
 | [],_=>dfl e
 | p::r,k=>match k==p.1 with|true=>p.2|false=>yE r k
def zX{e:Ec}(l:List (Int×Elt e))(k:Int):Bool:=l.any fun p=>k==p.1
def zFU:IntKind->Bool|.i64=>true|_=>false
def zAG(P:Program)(t:TypeId):Option (TypeId×Ec):=match P.underlying t with
 | some (.map K E)=>match P.underlying K with
  | some (.int _)=>match P.info? E with
   | some i=>match i.zero with
    | some (.int q n)=>match zFU q,n==0 with
     | true,true=>some (E,.int .i64)
     | _,_=>none
    | some (.bool false)=>some (E,.bool)
    | _=>none
   | none=>none
  | _=>none
 | _=>none
def zz4:Ec->Ec->Bool
 | .int .i64,.int .i64=>true
 | .bool,.bool=>true
 | _,_=>false
theorem zsw{a b:Ec}(h:zz4 a b=true):a=b:=by
 unfold zz4 at h
 split at h
 .rfl
 .rfl
 .cases h
theorem zsP{t E:TypeId}{e:Ec}(h:zAG P t=some (E,e)):∃ K q i z,P.underlying t=some (.map K E)/\P.underlying K=some (.int q)/\P.info? E=some i/\i.zero=some z/\∀ M,zR M (cell e (dfl e) 0) z:=by
 unfold zAG at h
 split at h
 .rename_i K E' hu
  split at h
  .rename_i q hk
   split at h
   .rename_i i hi
    split at h
    .rename_i q' n hz
     split at h
     .rename_i hq hn
      cases h
      have hn:n=0:=by simpa using hn
      have hq : q' = .i64 := by unfold zFU at hq; split at hq; · rfl
                                .cases hq
      subst hn;subst hq
      exact⟨K,q,i,_,hu,hk,hi,hz,fun M=>.int _ _ (by show IntKind.i64.has (0:Int);simp[IntKind.has,IntKind.min,IntKind.max,IntKind.signed,IntKind.bits])⟩
     .cases h
    .rename_i hz
     cases h
     exact⟨K,q,i,_,hu,hk,hi,hz,fun M=>.bool false⟩
    .cases h
   .cases h
  .cases h
 .cases h
def zgp(P:Program)(ob:Nat->Option AObj)(t:TypeId)(ck:Bool):List AV->Option (AV×Option Prop)
 | [.mref id,.p (.int .i64 k)]=>match ob id,zAG P t with
  | some (.mp e l),some (_,e')=>match zz4 e e',ck with
   | true,true=>some (.tup [.p (cell e (yE l k) 0),.p (.bool (zX l k))],none)
   | true,false=>some (.p (cell e (yE l k) 0),none)
   | false,_=>none
  | _,_=>none
 | _=>none
theorem ziP{q:IntKind}{k:Int}{e:Ec}:∀ {l:List (Int×Elt e)} {es:List MapEntry} {i:Nat},zgB M e es l->
 (zX l k=false/\yE l k=dfl e/\Instr.findNow (.int q) (.int .i64 k) es i=some none)\/(zX l k=true/\∃ j v,Instr.findNow (.int q) (.int .i64 k) es i=some (some (j,v))/\zR M (cell e (yE l k) 0) v)
 | [],[],i,_=>.inl ⟨rfl,rfl,rfl⟩
 | y::l,x::es,i,h=>by
  obtain⟨h1,h2,h3⟩:=h
  cases hk:k==y.1 with
  | true=>
   refine .inr ⟨by simp[zX,hk],i,x.val,?_,?_⟩
   .simp [Instr.findNow,h1,Instr.sameNow,hk]
   .have e1:yE (y::l) k=y.2:=by simp only[yE,hk]
    rw[e1];exact h2
  | false=>
   have e1:yE (y::l) k=yE l k:=by simp only[yE,hk]
   have e2:zX (y::l) k=zX l k:=by simp[zX,hk]
   have e3:Instr.findNow (.int q) (.int .i64 k) (x::es) i=Instr.findNow (.int q) (.int .i64 k) es (i+1):=by simp[Instr.findNow,h1,Instr.sameNow,hk]
   rw[e1,e2,e3]
   exact ziP h3
theorem zcH{K:TypeId}{q:IntKind}(hk:P.underlying K=some (.int q))(b:Bool)(k:Int)(w:World)(n:Nat):(Instr.checkKey b (n+1) K (.int .i64 k)).run P w=.ok () w:=by
 simp only[Instr.checkKey,Sem.run_bind,run_underlying hk,Result.andThen_ok,Sem.run_pure]
theorem zdp{K:TypeId}{q:IntKind}(hk:P.underlying K=some (.int q)){v:Value}{es:List MapEntry}{r:Option (Nat×Value)}(h:Instr.findNow (.int q) v es 0=some r)(w:World):(Instr.findKey K v es).run P w=.ok r w:=by
 simp only[Instr.findKey,Sem.run_bind,run_underlying hk,Result.andThen_ok,h,Sem.run_pure]
theorem ziD{b:Nat}{es:Array MapEntry}{c:Nat}(h:w.heap[b]?=some (.map es c)):(getObj b).run P w=.ok (.map es c) w:=by
 simp[getObj,Sem.run,h]
theorem zpT(hs:StG C γ M s a w){t:TypeId}{ck:Bool}{x y:AV}{r:AV}{ok:Option Prop}(h:zgp P s.ob t ck [x,y]=some (r,ok)){u v:Value}(hx:zp γ M x u)(hy:zp γ M y v):
 ∃ z,(Instr.lookup t u v ck).run P w=.ok z w/\zp γ M r z:=by
 unfold zgp at h
 split at h
 .rename_i id k heq
  cases heq
  split at h
  .rename_i e l E e' ho hT
   obtain⟨K,q,i,zv,hu,hk,hi,hz,hzr⟩:=zsP hT
   cases hx with|mref _ b hg=>
   cases hy.p_inv
   obtain⟨b',es,cl,hg',hh,hr,hm⟩:=hs.ob id _ ho
   rw[hg]at hg';cases hg'
   have hzero:(zeroValue E).run P w=.ok zv w:=by simp[zeroValue,typeInfo,hi,hz]
   have hrun:∃ zz,(Instr.lookup t (.map (some b)) (.int .i64 k) ck).run P w=.ok (if ck then .tuple #[zz,.bool (zX l k)] else zz) w/\(e=e'->zR M (cell e (yE l k) 0) zz):=by
    rcases ziP (q:=q) (k:=k) (i:=0) hr with⟨g1,g2,g3⟩|⟨g1,j,vv,g3,g4⟩
    .refine ⟨zv,?_,fun he=>by rw[g2];subst he;exact hzr M⟩
     simp only[Instr.lookup,Sem.run_bind,run_underlying hu,Result.andThen_ok,ziD hh,Sem.run_pure,show ∀ b,(Instr.checkKey b 10000 K (.int .i64 k)).run P w=.ok () w from fun b=>zcH hk b k w 9999,zdp hk g3,hzero,g1]
    .refine ⟨vv,?_,fun _=>g4⟩
     simp only[Instr.lookup,Sem.run_bind,run_underlying hu,Result.andThen_ok,ziD hh,Sem.run_pure,show ∀ b,(Instr.checkKey b 10000 K (.int .i64 k)).run P w=.ok () w from fun b=>zcH hk b k w 9999,zdp hk g3,g1]
   obtain⟨zz,h1,h2⟩:=hrun
   split at h
   .rename_i hse
    cases h
    refine⟨_,h1,.tup _ _ rfl fun i hi=>?_⟩
    match i,hi with
    | 0,_=>exact .p _ _ (h2 (zsw hse))
    | 1,_=>exact .p _ _ (.bool _)
   .rename_i hse
    cases h
    exact⟨_,h1,.p _ _ (h2 (zsw hse))⟩
   .cases h
  .cases h
 .cases h
def evL(P:Program)(ob:Nat->Option AObj)(op:Op)(xs:List AV):Option (AV×Option Prop):=
 match op with
 | .load t _=>zcL P ob t xs
 | .indexAddr t _ _=>zao P ob t xs
 | .lookup t _ _ ck=>zgp P ob t ck xs
 | .convert s d _=>zjE P ob s d xs
 | .call ⟨.builtin .len,_,ts⟩=>match ts[0]? with|some t=>zlV P ob t xs|none=>none
 | _=>none
theorem zb1.cell{e:TypeId}{mu:Bool}{k n:Nat}{vs:List Value}{g cap:Nat}(h:zb1 M w e mu k n vs (some g) cap):
 ∀ j u,vs[j]?=some u->w.cell? ⟨g,j,none⟩=some u:=by
 intro j u hu
 have:=h.own.cells (g:=g) rfl j u hu
 rw[zad,Nat.zero_add]at this;exact this
theorem zb1.len_vs{e:TypeId}{mu:Bool}{k n:Nat}{vs:List Value}{a:Option Nat}{cap:Nat}(h:zb1 M w e mu k n vs a cap):vs.length=n*k:=h.own.1
theorem zb1.none{e:TypeId}{mu:Bool}{k n:Nat}{vs:List Value}{cap:Nat}(h:zb1 M w e mu k n vs none cap):n=0/\cap=0:=by
 rcases h.own.2 with⟨hv,hn⟩|⟨g,cap',cur,hv,_⟩
 .simp [yX]at hv;exact⟨hn,hv.2⟩
 .simp [yX]at hv
theorem zp.ref_inv{id off:Nat}{v:Value}(h:zp γ M (.ref id off) v):∃ b,γ id=some (.cell b)/\v=.pointer (some ⟨b,off,none⟩):=by
 cases h with|ref id off b h=>exact⟨b,h,rfl⟩
theorem zp.arr_inv{id:Nat}{v:Value}(h:zp γ M (.arr id) v):∃ a k n cap,γ id=some (.arr a k n cap)/\v=yX a n cap:=by
 cases h with|arr id a k n cap h=>exact⟨a,k,n,cap,h,rfl⟩
theorem zp.aptr_inv{id i j:Nat}{v:Value}(h:zp γ M (.aptr id i j) v):∃ g k n cap,γ id=some (.arr (some g) k n cap)/\v=.pointer (some ⟨g,i*k+j,none⟩):=by
 cases h with|aptr id i j g k n cap h=>exact⟨g,k,n,cap,h,rfl⟩
theorem zGO{l:List UInt8}{i:Nat}(h:i<l.length):(l.map zat)[i]?=some (zat (l.getD i 0)):=by
 rw[List.getElem?_map,List.getElem?_eq_getElem h,List.getD_eq_getElem?_getD,List.getElem?_eq_getElem h];rfl
theorem ztc(γ:Nat->Option G)(M:Mem)(c:UInt8):zp γ M (.p (.int .u8 (c.toNat:Int))) (zat c):=.p _ _ (.int _ _ (zAM c))
theorem zx5{g:Nat}{cur:Array Value}{e:TypeId}{l:List UInt8}(hh:w.heap[g]?=some (.cells cur e (cur.size,cur.size+1)))(ht:cur.toList.take l.length=l.map zat):
 ∀ i c,l[i]?=some c->w.cell? ⟨g,i,none⟩=some (zat c):=by
 intro i c hc
 have h1:(cur.toList.take l.length)[i]?=some (zat c):=by rw[ht,List.getElem?_map,hc];rfl
 have hlt:i<l.length:=by
  rcases Nat.lt_or_ge i l.length with h|h
  .exact h
  .rw [List.getElem?_eq_none h]at hc;cases hc
 rw[List.getElem?_take_of_lt hlt]at h1
 rw[cell_of_row w g i cur e _ hh]
 simpa using h1
theorem zPS{l:List UInt8}{i:Nat}(h:i<l.length):l[i]?=some (l.getD i 0):=by
 rw[List.getElem?_eq_getElem h,List.getD_eq_getElem?_getD,List.getElem?_eq_getElem h];rfl
theorem zfp(hs:StG C γ M s a w){t:TypeId}{x r:AV}{ok:Option Prop}(h:zcL P s.ob t [x]=some (r,ok))(hok:okP ok){v:Value}
 (hx:zp γ M x v):∃ u,(Instr.loadAt t v).run P w=.ok u w/\zp γ M r u:=by
 cases x with
 | ref id off=>
  obtain⟨b,hb,rfl⟩:=hx.ref_inv
  dsimp only[zcL]at h
  cases ho:s.ob id with
  | none=>rw[ho]at h;cases h
  | some o=>
   rw[ho]at h
   cases o with
   | cells cs=>
    obtain⟨r',hr,he⟩:=map_some h
    cases he
    obtain⟨b',vs,e,hg,hh,hsz,hc,_⟩:=hs.ob id _ ho
    rw[hb]at hg;cases hg
    obtain⟨u,hu,hrel⟩:=zbz (P:=P) (w:=w) (γ:=γ) (M:=M) hr (b:=b) (off:=off) (g:=fun j=>vs.getD (off+j) undef)
     (fun j hj=>by
      rw[cell_of_row w b (off+j) vs e (0,0) hh,Array.getD_eq_getD_getElem?,Array.getElem?_eq_getElem (by omega)];rfl)
     (fun j hj=>(hc (off+j) (by omega)).1)
    exact⟨u,by simp[Instr.loadAt,Instr.sureAddr,hu],hrel⟩
   | bldr T x=>
    match off,h with
    | 0,h=>cases h
    | 1,h=>
     obtain⟨r',hr,he⟩:=map_some h
     cases he
     obtain⟨b',v0,v1,hg,hh,h0,h1,h2,_⟩:=hs.ob id _ ho
     rw[hb]at hg;cases hg
     obtain⟨u,hu,hrel⟩:=zbz (P:=P) (w:=w) (γ:=γ) (M:=M) hr (b:=b) (off:=1) (g:=fun j=>v1)
      (fun j hj=>by
       have:j=0:=by omega
       subst this
       rw[cell_of_row w b 1 #[v0,v1] T (0,0) hh];rfl)
      (fun j hj=>h1)
     exact⟨u,by simp[Instr.loadAt,Instr.sureAddr,hu],hrel⟩
    | _+2,h=>cases h
   | _=>cases h
 | p q=>
  cases q with
  | box n f=>
   obtain⟨r',hr,he⟩:=map_some h
   cases he
   cases hx.p_inv with
   | box n f b off g hM hf=>
    obtain⟨u,hu,hrel⟩:=zbz (P:=P) (w:=w) (γ:=γ) (M:=M) hr (b:=b) (off:=off) (g:=g)
     (fun j hj=>hs.mem _ _ _ (hM j hj)) (fun j hj=>.p _ _ (hf j hj))
    exact⟨u,by simp[Instr.loadAt,Instr.sureAddr,hu],hrel⟩
  | _=>cases h
 | aptr id i j=>
  obtain⟨g,k,n,cap,hg,rfl⟩:=hx.aptr_inv
  dsimp only[zcL]at h
  cases ho:s.ob id with
  | none=>rw[ho]at h;cases h
  | some o=>
   rw[ho]at h
   cases o with
   | cells cs=>cases h
   | barr e mu l=>
    cases j with
    | succ j=>cases h
    | zero=>
     obtain⟨r',hr,he⟩:=map_some h
     cases he
     obtain⟨a',cap',hg',hA⟩:=hs.ob id _ ho
     rw[hg]at hg';cases hg'
     have hlt:i<l.length:=hok
     obtain⟨u,hu,hrel⟩:=zbz (P:=P) (w:=w) (γ:=γ) (M:=M) hr (b:=g) (off:=i*1+0) (g:=fun _=>zat (l.getD i 0))
      (fun q hq=>by
       have:q=0:=by omega
       subst this
       have:=hA.cell i _ (zGO hlt)
       simpa using this)
      (fun q hq=>ztc γ M _)
     exact⟨u,by simp only[Instr.loadAt,Instr.sureAddr,Sem.run_bind,Sem.run_pure,Result.andThen_ok];exact hu,hrel⟩
   | bcv e l=>
    cases j with
    | succ j=>cases h
    | zero=>
     obtain⟨r',hr,he⟩:=map_some h
     cases he
     obtain⟨g',cur,hg',hh,ht,hc,hl,_⟩:=hs.ob id _ ho
     rw[hg]at hg';cases hg'
     have hlt:i<l.length:=hok
     obtain⟨u,hu,hrel⟩:=zbz (P:=P) (w:=w) (γ:=γ) (M:=M) hr (b:=g) (off:=i*1+0) (g:=fun _=>zat (l.getD i 0))
      (fun q hq=>by
       have:q=0:=by omega
       subst this
       have:=zx5 hh ht i _ (zPS hlt)
       simpa using this)
      (fun q hq=>ztc γ M _)
     exact⟨u,by simp only[Instr.loadAt,Instr.sureAddr,Sem.run_bind,Sem.run_pure,Result.andThen_ok];exact hu,hrel⟩
   | bldr _ _=>cases h
   | raw _=>cases h
   | mp _ _=>cases h
   | larr e mu k' R=>
    obtain⟨r',hr,he⟩:=map_some h
    cases he
    obtain⟨a',cap',vs,hg',hv,hA⟩:=hs.ob id _ ho
    rw[hg]at hg';cases hg'
    have hlt:i<R.n:=hok
    obtain⟨u,hu,hrel⟩:=zbz (P:=P) (w:=w) (γ:=γ) (M:=M) hr (b:=g) (off:=i*k+j) (g:=fun q=>vs.getD (i*k+(j+q)) undef)
     (fun q hq=>by
      obtain⟨v',hv1,_⟩:=hv i (j+q) hlt (by omega)
      have:=hA.cell _ _ hv1
      rw[List.getD_eq_getElem?_getD,hv1]
      simpa[Nat.add_assoc]using this)
     (fun q hq=>by
      obtain⟨v',hv1,hv2⟩:=hv i (j+q) hlt (by omega)
      rw[List.getD_eq_getElem?_getD,hv1]
      exact .p _ _ hv2)
    exact⟨u,by simp only[Instr.loadAt,Instr.sureAddr,Sem.run_bind,Sem.run_pure,Result.andThen_ok];exact hu,hrel⟩
 | _=>cases h
theorem zjv{t:TypeId}(h:zaF P t=true):∃ e,P.underlying t=some (.slice e)/\P.underlying e=some (.int .u8):=by
 unfold zaF at h
 split at h
 .rename_i e he
  refine⟨e,zaA he,?_⟩
  split at h
  .assumption
  .cases h
 .cases h
theorem run_bytesToString(b off cap:Nat)(l:List UInt8)(h:∀ i c,l[i]?=some c->w.cell? ⟨b,off+i,none⟩=some (zat c)):
 (Conv.bytesToString (.slice (some ⟨b,off,none⟩) l.length cap)).run P w=.ok (.string ⟨l.toArray⟩) w:=by
 have hl:=run_loadCells_list (P:=P) w ⟨b,off,none⟩ (l.map zat) (fun j v hv=>by
  rw[zad]
  rw[List.getElem?_map]at hv
  cases hc:l[j]? with
  | none=>rw[hc]at hv;cases hv
  | some c=>rw[hc]at hv;cases hv;exact h j c hc)
 rw[List.length_map]at hl
 have e1:l.map zat=(l.map fun c=>(c.toNat:Int)).map (Value.int .u8):=by rw[List.map_map];rfl
 rw[e1]at hl
 rw[Go.run_bytesToString w _ l.length cap _ hl,foldl_push_bytes]
 have e2:(l.map fun c=>(c.toNat:Int)).map (fun n=>UInt8.ofNat n.toNat)=l:=by
  rw[List.map_map]
  conv=>rhs;rw[<-List.map_id l]
  exact List.map_congr_left fun c _=>by simp
 rw[e2]
 simp[ByteArray.empty,ByteArray.emptyWithCapacity]
 rfl
theorem run_convert_bytes{sT d:TypeId}(hT:(zaF P sT&&zaY P d)=true)(v:Value)(hv:∃ x n c,v=.slice x n c):
 (convert sT d v).run P w=(Conv.bytesToString v).run P w:=by
 rw[Bool.and_eq_true]at hT
 obtain⟨e,h1,h2⟩:=zjv hT.1
 have h3:=zby hT.2
 obtain⟨x,n,c,rfl⟩:=hv
 simp[convert,run_underlying h1,run_underlying h2,run_underlying h3]
theorem zrG(hs:StG C γ M s a w){sT d:TypeId}{x r:AV}{ok:Option Prop}(h:zjE P s.ob sT d [x]=some (r,ok)){v:Value}
 (hx:zp γ M x v):∃ u,(convert sT d v).run P w=.ok u w/\zp γ M r u:=by
 cases x with
 | arr id=>
  obtain⟨a',k,n,cap,hg,rfl⟩:=hx.arr_inv
  dsimp only[zjE]at h
  cases ho:s.ob id with
  | none=>rw[ho]at h;cases h
  | some o=>
   rw[ho]at h
   cases o with
   | barr e mu l=>
    obtain⟨hT,he⟩:=zI h
    cases he
    obtain⟨a2,cap2,hg',hA⟩:=hs.ob id _ ho
    rw[hg]at hg';cases hg'
    rw[run_convert_bytes hT (yX a' l.length cap) ⟨_,_,_,rfl⟩]
    cases a' with
    | none=>
     have:=hA.none
     have hl:l=[]:=List.eq_nil_of_length_eq_zero this.1
     subst hl
     exact⟨.string .empty,rfl,.p _ _ (.str [] (by simp))⟩
    | some g=>
     exact⟨_,run_bytesToString g 0 cap l (fun i c hc=>by
      have:=hA.cell i (zat c) (by rw[List.getElem?_map,hc];rfl)
      simpa using this),.p _ _ (.str _ hA.len)⟩
   | bcv e l=>
    obtain⟨hT,he⟩:=zI h
    cases he
    obtain⟨g,cur,hg',hh,ht,hc,hl,_⟩:=hs.ob id _ ho
    rw[hg]at hg';cases hg'
    rw[run_convert_bytes hT (yX (some g) l.length cur.size) ⟨_,_,_,rfl⟩]
    exact⟨_,run_bytesToString g 0 cur.size l (fun i c hc=>by
     have:=zx5 hh ht i c hc
     simpa using this),.p _ _ (.str _ hl)⟩
   | _=>cases h
 | p q=>
  cases q with
  | bytes l=>
   obtain⟨hT,he⟩:=zI h
   cases he
   rcases zhk hx.p_inv with⟨rfl,rfl⟩|⟨b,off,cap,rfl,hm,hc,hM⟩
   .rw [run_convert_bytes hT _ ⟨_,_,_,rfl⟩]
    exact⟨.string .empty,rfl,.p _ _ (.str [] (by simp))⟩
   .rw [run_convert_bytes hT _ ⟨_,_,_,rfl⟩]
    exact⟨_,run_bytesToString b off cap l (fun i c hc=>hs.mem _ _ _ (hM i c hc)),.p _ _ (.str _ hm)⟩
  | nil=>
   obtain⟨hT,he⟩:=zI h
   cases he
   cases hx.p_inv
   rw[run_convert_bytes hT _ ⟨_,_,_,rfl⟩]
   exact⟨.string .empty,rfl,.p _ _ (.str [] (by simp))⟩
  | _=>cases h
 | _=>cases h
theorem ziQ(hs:StG C γ M s a w){t:TypeId}{x y r:AV}{ok:Option Prop}(h:zao P s.ob t [x,y]=some (r,ok))(hok:okP ok){v u:Value}
 (hx:zp γ M x v) (hy:zp γ M y u):∃ q,(Instr.indexAt t v u).run P w=.ok q w/\zp γ M r q:=by
 cases x with
 | arr id=>
  cases y with
  | p y=>
   cases y with
   | int kk i=>
    obtain⟨a',k,n,cap,hg,rfl⟩:=hx.arr_inv
    have hu:=hy.int_inv.1
    subst hu
    dsimp only[zao]at h
    cases ho:s.ob id with
    | none=>rw[ho]at h;cases h
    | some o=>
     cases hk:zaZ P t with
     | none=>rw[ho,hk]at h;cases o <;> cases h
     | some k1=>
      rw[ho,hk]at h
      cases o with
      | cells cs=>cases h
      | barr e mu l=>
       obtain⟨hT,he⟩:=zI h
       cases he
       have hT:=Nat.eq_of_beq_eq_true hT
       subst hT
       obtain⟨a2,cap2,hg',hA⟩:=hs.ob id _ ho
       rw[hg]at hg';cases hg'
       cases a' with
       | none=>have:=hA.none;exact absurd hok.2 (by omega)
       | some g=>exact⟨_,zal hk g 0 _ _ _ _ hok.1 hok.2 w,by rw[Nat.zero_add];exact .aptr id _ _ _ _ _ _ hg⟩
      | bcv e l=>
       obtain⟨hT,he⟩:=zI h
       cases he
       have hT:=Nat.eq_of_beq_eq_true hT
       subst hT
       obtain⟨g,cur,hg',hh,ht,hc,hl,_⟩:=hs.ob id _ ho
       rw[hg]at hg';cases hg'
       exact⟨_,zal hk g 0 _ _ _ _ hok.1 hok.2 w,by rw[Nat.zero_add];exact .aptr id _ _ _ _ _ _ hg⟩
      | bldr _ _=>cases h
      | raw _=>cases h
      | mp _ _=>cases h
      | larr e mu k2 R=>
       obtain⟨hT,he⟩:=zI h
       cases he
       have hT:=Nat.eq_of_beq_eq_true hT
       subst hT
       obtain⟨a2,cap2,vs,hg',hv,hA⟩:=hs.ob id _ ho
       rw[hg]at hg';cases hg'
       cases a' with
       | none=>have:=hA.none;exact absurd hok.2 (by omega)
       | some g=>exact⟨_,zal hk g 0 _ _ _ _ hok.1 hok.2 w,by rw[Nat.zero_add];exact .aptr id _ _ _ _ _ _ hg⟩
   | _=>cases h
  | _=>cases h
 | _=>cases h
theorem zuX(hs:StG C γ M s a w){t:TypeId}{x r:AV}{ok:Option Prop}(h:zlV P s.ob t [x]=some (r,ok)){v:Value}
 (hx:zp γ M x v) (ts:Array TypeId) (ht:ts[0]?=some t) (ty:TypeId):∃ q,(Builtin.len_ ts ty #[v]).run P w=.ok q w/\zp γ M r q:=by
 cases x with
 | arr id=>
  obtain⟨a',k,n,cap,hg,rfl⟩:=hx.arr_inv
  dsimp only[zlV]at h
  cases ho:s.ob id with
  | none=>rw[ho]at h;cases h
  | some o=>
   rw[ho]at h
   cases o with
   | cells cs=>cases h
   | barr e mu l=>
    obtain⟨hT,he⟩:=zI h
    cases he
    obtain⟨e',hu⟩:=yG hT
    obtain⟨a2,cap2,hg',hA⟩:=hs.ob id _ ho
    rw[hg]at hg';cases hg'
    exact⟨_,by simp[Builtin.len_,ht,run_underlying hu,yX,goInt],.p _ _ (.int _ _ (yU hA.len))⟩
   | bcv e l=>
    obtain⟨hT,he⟩:=zI h
    cases he
    obtain⟨e',hu⟩:=yG hT
    obtain⟨g,cur,hg',hh,ht2,hc,hl,_⟩:=hs.ob id _ ho
    rw[hg]at hg';cases hg'
    exact⟨_,by simp[Builtin.len_,ht,run_underlying hu,yX,goInt],.p _ _ (.int _ _ (yU hl))⟩
   | bldr _ _=>cases h
   | raw _=>cases h
   | mp _ _=>cases h
   | larr e mu k2 R=>
    obtain⟨hT,he⟩:=zI h
    cases he
    obtain⟨e',hu⟩:=yG hT
    obtain⟨a2,cap2,vs,hg',hv,hA⟩:=hs.ob id _ ho
    rw[hg]at hg';cases hg'
    exact⟨_,by simp[Builtin.len_,ht,run_underlying hu,yX,goInt],.p _ _ (.int _ _ (yU hA.len))⟩
 | _=>cases h
theorem zGC(hs:StG C γ M s a w)(o:Oper){xs:List AV}{r:AV}{ok:Option Prop}(h:evL P s.ob o.op xs=some (r,ok))(hok:okP ok)
 {ρ:Operand->Value} (hx:zB γ M xs (o.op.operands.toList.map ρ)):∃ v,(execOp ρ o).run P w=.ok (.value v) w/\zp γ M r v:=by
 obtain⟨dst,op,type,pos,after,guard⟩:=o
 dsimp only at hx h
 cases op <;> simp only[evL,reduceCtorEq]at h <;> simp only[Op.operands,List.map_cons,List.map_nil]at hx
 case load t x=>
  cases hx with
  | cons h1 ht=>
   cases ht with
   | nil=>
    obtain⟨v,hv,hr⟩:=zfp (P:=P) hs h hok h1
    exact⟨v,by simp[execOp,hv],hr⟩
 case lookup t x i ck=>
  cases hx with
  | cons h1 ht=>
   cases ht with
   | cons h2 ht=>
    cases ht with
    | nil=>
     obtain⟨v,hv,hr⟩:=zpT (P:=P) hs h h1 h2
     exact⟨v,by simp[execOp,hv],hr⟩
 case convert sT d x=>
  cases hx with
  | cons h1 ht=>
   cases ht with
   | nil=>
    obtain⟨v,hv,hr⟩:=zrG (P:=P) hs h h1
    exact⟨v,by simp[execOp,hv],hr⟩
 case indexAddr t x i=>
  cases hx with
  | cons h1 ht=>
   cases ht with
   | cons h2 ht=>
    cases ht with
    | nil=>
     obtain⟨v,hv,hr⟩:=ziQ (P:=P) hs h hok h1 h2
     exact⟨v,by simp[execOp,hv],hr⟩
 case call c=>
  obtain⟨callee,args,ts⟩:=c
  cases callee with
  | value f=>cases h
  | invoke r m=>cases h
  | builtin b=>
   cases b <;> dsimp only at h <;> first|(cases h;done)|skip
   have hx':zB γ M xs (args.toList.map ρ):=by simpa[Call.operands]using hx
   cases hts:ts[0]? with
   | none=>rw[hts]at h;cases h
   | some t=>
    rw[hts]at h
    dsimp only at h
    cases args with
    | mk al=>
    dsimp only at hx'
    generalize hvs:al.map ρ=vs at hx'
    have hal:(List.toArray al).map ρ=vs.toArray:=by rw[<-hvs];simp
    cases hx' with
    | nil=>cases h
    | cons ha ht=>
     cases ht with
     | cons _ _=>simp[zlV]at h
     | nil=>
      obtain⟨v,hv,hr⟩:=zuX (P:=P) hs h ha ts hts type
      refine⟨v,?_,hr⟩
      simp only[execOp,resolve,Sem.run_bind,Sem.run_pure,Result.andThen_ok,invoke,builtin,hal,hv]
end Go.Am
/-! Filling rows of cells;'build'. -/
namespace Go.Am
open Go Go.RowKit
variable {P:Program}{γ γ':Nat->Option G}{M M':Mem}{C:Ctx}{s s':S}{a a':Act}{w w':World}
def zyE(γ:Nat->Option G)(M:Mem)(cs:List AV)(vs:Array Value):Prop:=
 vs.size=cs.length/\∀ j,j<cs.length->zp γ M (cs.getD j .any) (vs.getD j undef)
def over(cs:List AV)(off:Nat)(xs:List AV):List AV:=cs.take off++(xs++cs.drop (off+xs.length))
theorem zs1(off:Nat):∀ (l:List Value) (n:Nat) (cells:Array Value),
 ((l.zipIdx n).foldl (fun cs x=>cs.setIfInBounds (off+x.2) x.1) cells).size=cells.size/\
 ∀ j,off+n+l.length<=cells.size->((l.zipIdx n).foldl (fun cs x=>cs.setIfInBounds (off+x.2) x.1) cells)[j]?=
  if off+n<=j/\j<off+n+l.length then l[j-(off+n)]? else cells[j]?
 | [],n,cells=>by
  refine⟨rfl,fun j _=>?_⟩
  rw[if_neg (by simp)];rfl
 | v::l,n,cells=>by
  obtain⟨h1,h2⟩:=zs1 off l (n+1) (cells.setIfInBounds (off+n) v)
  simp only[List.zipIdx_cons,List.foldl_cons,List.length_cons]
  refine⟨by rw[h1];simp,fun j hj=>?_⟩
  rw[h2 j (by simp;omega)]
  by_cases e:j=off+n
  .subst e
   rw[if_neg (by omega),if_pos (by omega)]
   rw[Array.getElem?_setIfInBounds_self_of_lt (by omega)]
   simp
  .rw [Array.getElem?_setIfInBounds_ne (by omega)]
   by_cases hc:off+(n+1)<=j/\j<off+(n+1)+l.length
   .rw [if_pos hc,if_pos (by omega)]
    obtain⟨q,hq⟩:∃ q,j-(off+n)=q+1:=⟨j-(off+n)-1,by omega⟩
    have hq2:j-(off+(n+1))=q:=by omega
    rw[hq,hq2];rfl
   .rw [if_neg hc,if_neg (by omega)]
theorem zcx{cs:List AV}{off:Nat}{xs:List AV}(h:off+xs.length<=cs.length):(over cs off xs).length=cs.length:=by
 simp[over];omega
theorem zw7{cs:List AV}{off:Nat}{xs:List AV}(h:off+xs.length<=cs.length)(j:Nat):
 (over cs off xs).getD j .any=if off<=j/\j<off+xs.length then xs.getD (j-off) .any else cs.getD j .any:=by
 unfold over
 simp only[List.getD_eq_getElem?_getD]
 by_cases h1:j<off
 .rw [List.getElem?_append_left (by simp;omega),if_neg (by omega),List.getElem?_take,if_pos h1]
 .rw [List.getElem?_append_right (by simp;omega)]
  have e:(cs.take off).length=off:=by simp;omega
  rw[e]
  by_cases h2:j<off+xs.length
  .rw [List.getElem?_append_left (by omega),if_pos (by omega)]
  .rw [List.getElem?_append_right (by omega),if_neg (by omega),List.getElem?_drop]
   congr 2
   omega
def AV.cells?:AV->Option (List AV)
 | .agg cs=>some cs
 | x=>match x.one with|true=>some [x]|false=>none
theorem zdC{x:AV}{ys:List AV}(h:x.cells?=some ys){v:Value}(hx:zp γ M x v):zyE γ M ys v.cells:=by
 cases x with
 | agg cs=>
  cases h
  obtain⟨vs,rfl,hs,hr⟩:=hx.agg_inv
  exact⟨hs,hr⟩
 | any=>cases h
 | tup cs=>cases h
 | gd c y=>cases h
 | _=>
  cases h
  have h1:=hx.oneCell rfl
  have e:v.cells=#[v]:=by cases v <;> first|rfl|cases h1
  rw[e]
  refine⟨rfl,fun j hj=>?_⟩
  have:j=0:=by simp at hj;omega
  subst this
  exact hx
def zqc(place:Nat->Option (Nat×Nat))(cs:List AV):List (Nat×AV)->Option (List AV)
 | []=>some cs
 | (i,x)::rest=>match place i,x.cells? with
  | some (off,size),some ys=>match Nat.beq ys.length size&&Nat.ble (off+ys.length) cs.length with
   | true=>zqc place (over cs off ys) rest
   | false=>none
  | _,_=>none
inductive zmS(γ:Nat->Option G)(M:Mem):List (Nat×AV)->List (Nat×Value)->Prop
 | nil:zmS γ M [] []
 | cons {i:Nat} {x:AV} {v:Value} {xs:List (Nat×AV)} {vs:List (Nat×Value)} (h:zp γ M x v) (t:zmS γ M xs vs):zmS γ M ((i,x)::xs) ((i,v)::vs)
theorem zpQ(place:Nat->Option (Nat×Nat)):∀ (xs:List (Nat×AV)) (vs:List (Nat×Value)) (cs r:List AV) (cells:Array Value),
 zqc place cs xs=some r->zmS γ M xs vs->zyE γ M cs cells->∃ cells',Instr.fill place cells vs=some cells'/\zyE γ M r cells':=by
 intro xs
 induction xs with
 | nil=>intro vs cs r cells h hp hc;cases hp;cases h;exact⟨cells,rfl,hc⟩
 | cons x xs ih=>
  intro vs cs r cells h hp hc
  cases hp with
  | @cons i x v _ vs hv ht=>
   simp only[zqc]at h
   cases hpl:place i with
   | none=>rw[hpl]at h;cases h
   | some ps=>
    obtain⟨off,size⟩:=ps
    cases hcl:x.cells? with
    | none=>rw[hpl,hcl]at h;cases h
    | some ys=>
     rw[hpl,hcl]at h
     dsimp only at h
     split at h
     .rename_i hb
      rw[Bool.and_eq_true]at hb
      have h1:=Nat.eq_of_beq_eq_true hb.1
      have h2:=Nat.le_of_ble_eq_true hb.2
      have hcv:=zdC hcl hv
      obtain⟨hs,hr⟩:=hcv
      have hcond:(decide (v.cells.size≠size)||decide (off+v.cells.size>cells.size))=false:=by
       rw[Bool.or_eq_false_iff,decide_eq_false_iff_not,decide_eq_false_iff_not,hs,hc.1];omega
      simp only[Instr.fill,hpl,hcond,Bool.false_eq_true,if_false]
      refine ih vs (over cs off ys) r _ h ht ?_
      obtain⟨g1,g2⟩:=zs1 off v.cells.toList 0 cells
      have e:(v.cells.zipIdx.foldl (fun cs x=>match x with|(c,j)=>cs.setIfInBounds (off+j) c) cells)=
       ((v.cells.toList.zipIdx 0).foldl (fun cs x=>cs.setIfInBounds (off+x.2) x.1) cells):=by
       rw[<-Array.foldl_toList]
       simp
      rw[e]
      have hlen:v.cells.toList.length=ys.length:=by simpa using hs
      refine⟨by rw[g1,zcx h2];exact hc.1,fun j hj=>?_⟩
      rw[zcx h2]at hj
      have hg:=g2 j (by rw[hlen,hc.1];omega)
      rw[zw7 h2,Array.getD_eq_getD_getElem?,hg,hlen]
      by_cases hcnd:off<=j/\j<off+ys.length
      .rw [if_pos hcnd,if_pos (by omega)]
       have:=hr (j-off) (by omega)
       rw[Array.getD_eq_getD_getElem?]at this
       simpa using this
      .rw [if_neg hcnd,if_neg (by omega)]
       have:=hc.2 j hj
       rw[Array.getD_eq_getD_getElem?]at this
       exact this
     .cases h
def zf1(P:Program)(t:TypeId):Option (List AV):=
 match P.info? t with
 | some i=>match i.zero with
  | some z=>match z.cells.toList.all (·.oneCell')with
   | true=>some (z.cells.toList.map ziX)
   | false=>none
  | none=>none
 | none=>none
theorem zb2{t:TypeId}{cs:List AV}(h:zf1 P t=some cs):∃ i z,P.info? t=some i/\i.zero=some z/\(∀ v ∈ z.cells.toList,v.oneCell'=true)/\cs=z.cells.toList.map ziX:=by
 unfold zf1 at h
 cases hi:P.info? t with
 | none=>rw[hi]at h;cases h
 | some i=>
  rw[hi]at h
  dsimp only at h
  cases hz:i.zero with
  | none=>rw[hz]at h;cases h
  | some z=>
   rw[hz]at h
   dsimp only at h
   split at h
   .rename_i hall
    cases h
    exact⟨i,z,rfl,hz,fun v hv=>(List.all_eq_true.1 hall) v hv,rfl⟩
   .cases h
theorem zbK(γ:Nat->Option G)(M:Mem)(vs:Array Value):zyE γ M (vs.toList.map ziX) vs:=by
 refine⟨by simp,fun j hj=>?_⟩
 have hj':j<vs.size:=by simpa using hj
 have e:(vs.toList.map ziX).getD j .any=ziX vs[j]:=by
  rw[List.getD_eq_getElem?_getD,List.getElem?_map,List.getElem?_eq_getElem (by simpa using hj')];simp
 have e2:vs.getD j undef=vs[j]:=by rw[Array.getD_eq_getD_getElem?,Array.getElem?_eq_getElem hj'];rfl
 rw[e,e2]
 exact zx8 γ M _
def ztT(P:Program)(fs:Array Field):Option (List (Nat×Nat)):=
 fs.toList.mapM fun f=>(zaH P f.type).map fun n=>(f.offset,n)
def zuY(P:Program)(t:TypeId)(ix:List Nat)(xs:List AV):Option (AV×Option Prop):=
 match zf1 P t,P.underlying t with
 | some z,some (.struct fs)=>match ztT P fs with
  | some ps=>(zqc (fun i=>ps[i]?) z (ix.zip xs)).map fun cs=>(.agg cs,none)
  | none=>none
 | _,_=>none
theorem zAl:∀ (fs:List Field) (ps:List (Nat×Nat)),(fs.mapM fun f=>(zaH P f.type).map fun n=>(f.offset,n))=some ps->
 ∀ w,(fs.mapM (m:=Sem) fun f=>do pure (f.offset,<-sizeOf f.type)).run P w=.ok ps w:=by
 intro fs
 induction fs with
 | nil=>intro ps h w;simp at h;subst h;rfl
 | cons f fs ih=>
  intro ps h w
  rw[List.mapM_cons]at h
  cases hf:zaH P f.type with
  | none=>rw[hf]at h;cases h
  | some n=>
   rw[hf]at h
   simp only[Option.map_some,Option.pure_def,Option.bind_eq_bind,Option.bind_some]at h
   cases hr:(fs.mapM fun f=>(zaH P f.type).map fun n=>(f.offset,n))with
   | none=>rw[hr]at h;cases h
   | some ps'=>
    rw[hr]at h
    cases h
    rw[List.mapM_cons]
    simp only[Sem.run_bind,yu hf,Result.andThen_ok,Sem.run_pure,ih ps' hr w]
theorem zmS.of{xs:List AV}:∀ {ix:List Nat} {ps:List (Nat×Operand)} {ρ:Operand->Value},zB γ M xs (ps.map fun p=>ρ p.2)->ix=ps.map (·.1)->
 zmS γ M (ix.zip xs) (ps.map fun p=>(p.1,ρ p.2)):=by
 intro ix ps ρ h hi
 subst hi
 induction ps generalizing xs with
 | nil=>cases h;exact .nil
 | cons p ps ih=>cases h with|cons h t=>exact .cons h (ih t)
theorem zrI{t:TypeId}{ps:Array (Nat×Operand)}{xs:List AV}{r:AV}{ok:Option Prop}{ρ:Operand->Value}
 (h:zuY P t (ps.toList.map (·.1)) xs=some (r,ok)) (hx:zB γ M xs (ps.toList.map fun p=>ρ p.2)) (w:World):
 ∃ v,(Instr.build t (ps.map fun(i,x)=>(i,ρ x))).run P w=.ok v w/\zp γ M r v:=by
 unfold zuY at h
 cases hz:zf1 P t with
 | none=>rw[hz]at h;cases h
 | some z=>
  rw[hz]at h
  split at h
  .rename_i z' fs hz' hu
   cases hz'
   split at h
   .rename_i places hpl
    obtain⟨cs,hf,he⟩:=map_some h
    cases he
    obtain⟨i,zv,hi,hzv,_,rfl⟩:=zb2 hz
    obtain⟨cells',hc1,hc2⟩:=zpQ (γ:=γ) (M:=M) (fun i=>places[i]?) _ _ _ _ zv.cells hf (zmS.of hx rfl) (zbK γ M zv.cells)
    have hrun:=zAl (P:=P) fs.toList places hpl w
    refine⟨.agg cells',?_,.agg _ _ hc2.1 hc2.2⟩
    have e:(ps.map fun(x:Nat×Operand)=>(x.1,ρ x.2)).toList=ps.toList.map fun p=>(p.1,ρ p.2):=by simp
    have hm:(fs.mapM (m:=Sem) fun f=>do pure (f.offset,<-sizeOf f.type)).run P w=.ok places.toArray w:=by
     rw[Array.mapM_eq_mapM_toList,Sem.run_map,hrun]
     rfl
    simp only[Instr.build,Sem.run_bind,zeroValue,typeInfo,run_program,Result.andThen_ok,hi,Sem.run_pure,hzv,run_underlying hu,hm]
    have e3:(fun(i:Nat)=>places.toArray[i]?)=fun(i:Nat)=>places[i]?:=by funext i;simp
    rw[e3,e,hc1]
    rfl
   .cases h
  .cases h
end Go.Am
/-! Operations that make memory. -/
namespace Go.Am
open Go Go.RowKit
variable {P:Program}{γ γ':Nat->Option G}{M M':Mem}{C:Ctx}{s s':S}{a a':Act}{w w':World}
theorem MOk.fresh(h:MOk M w){b:Nat}(hb:w.heap.size<=b):∀ o,M b o=none:=by
 intro o
 cases hm:M b o with
 | none=>rfl
 | some v=>
  have:=World.block_lt_of_cell? w ⟨b,o,none⟩ (h b o v hm)
  have:b<w.heap.size:=this
  omega
theorem MOk.alloc(h:MOk M w)(o:Obj):MOk M (w.alloc o):=by
 refine⟨?_,h.good⟩
 intro b i v hv
 have hc:=h b i v hv
 have hb:b<w.heap.size:=World.block_lt_of_cell? w ⟨b,i,none⟩ hc
 rw[World.cell?_of_block (w:=w) (Below.heap_alloc w o b hb)];exact hc
theorem StG.cells(h:StG C γ M s a w){d:Nat}(hd:yL C.nt (some d)=true)(hu:s.us d=false){cs:List AV}{vs:Array Value}(e:TypeId)
 (hr:zyE γ M cs vs) (h1:∀ j,j<cs.length->(vs.getD j undef).oneCell'=true):
 StG C (upd γ d (some (.cell w.heap.size))) M { sl:=upd s.sl d (.ref d 0),ob:=upd s.ob d (some (.cells cs)),us:=upd s.us d true }
  (a.put (some d) (.pointer (some ⟨w.heap.size,0,none⟩))) (w.alloc (.cells vs e)):=by
 have hγ:GLe γ (upd γ d (some (.cell w.heap.size))):=by
  intro i g' hi
  by_cases e:i=d
  .subst e;rw[h.us i hu]at hi;cases hi
  .rw [zC _ _ e];exact hi
 refine h.birth hd hu (MLe.refl M) (by simp) (fun b hb=>⟨Below.heap_alloc w _ b hb,rfl⟩) (h.mem.alloc _) rfl rfl rfl (g:=.cell w.heap.size) ?_ ?_ (.ref d 0 _ (zw _ _ _))
 .intro b hb;cases hb;simp
 .exact ⟨w.heap.size,vs,e,zw _ _ _,heap_alloc_new w _,hr.1,fun j hj=>⟨(hr.2 j hj).mono hγ (MLe.refl M),h1 j hj⟩,h.mem.fresh (Nat.le_refl _)⟩
theorem StG.bldr(h:StG C γ M s a w){d:Nat}(hd:yL C.nt (some d)=true)(hu:s.us d=false)(T:TypeId):
 StG C (upd γ d (some (.cell w.heap.size))) M { sl:=upd s.sl d (.ref d 0),ob:=upd s.ob d (some (.bldr T (.p .nil))),us:=upd s.us d true }
  (a.put (some d) (.pointer (some ⟨w.heap.size,0,none⟩))) (w.alloc (.cells #[.pointer none,.slice none 0 0] T)):=by
 refine h.birth hd hu (MLe.refl M) (by simp) (fun b hb=>⟨Below.heap_alloc w _ b hb,rfl⟩) (h.mem.alloc _) rfl rfl rfl (g:=.cell w.heap.size) ?_ ?_ (.ref d 0 _ (zw _ _ _))
 .intro b hb;cases hb;simp
 .exact ⟨w.heap.size,_,_,zw _ _ _,heap_alloc_new w _,.inl rfl,.p _ _ .nil,rfl,h.mem.fresh (Nat.le_refl _)⟩
theorem StG.mpb(h:StG C γ M s a w){d:Nat}(hd:yL C.nt (some d)=true)(hu:s.us d=false)(e:Ec):
 StG C (upd γ d (some (.cell w.heap.size))) M { sl:=upd s.sl d (.mref d),ob:=upd s.ob d (some (.mp e [])),us:=upd s.us d true }
  (a.put (some d) (.map (some w.heap.size))) (w.alloc (.map #[] 0)):=by
 refine h.birth hd hu (MLe.refl M) (by simp) (fun b hb=>⟨Below.heap_alloc w _ b hb,rfl⟩) (h.mem.alloc _) rfl rfl rfl (g:=.cell w.heap.size) ?_ ?_ (.mref d _ (zw _ _ _))
 .intro b hb;cases hb;simp
 .exact ⟨w.heap.size,_,_,zw _ _ _,heap_alloc_new w _,trivial,h.mem.fresh (Nat.le_refl _)⟩
theorem StG.bcv(h:StG C γ M s a w){d:Nat}(hd:yL C.nt (some d)=true)(hu:s.us d=false){e:TypeId}{l:List UInt8}{cur:Array Value}(hsz:w'.heap.size=w.heap.size+1)
 (hold:∀ j,j<w.heap.size->w'.heap[j]?=w.heap[j]?) (hnew:w'.heap[w.heap.size]?=some (.cells cur e (cur.size,cur.size+1))) (ht:cur.toList.take l.length=l.map zat)
 (hc:l.length<=cur.size) (hm:l.length<=maxLen) (hos:w'.os=w.os) (htape:w'.tape=w.tape) (hout:w'.output=w.output):
 StG C (upd γ d (some (.arr (some w.heap.size) 1 l.length cur.size))) M { sl:=upd s.sl d (.arr d),ob:=upd s.ob d (some (.bcv e l)),us:=upd s.us d true }
  (a.put (some d) (yX (some w.heap.size) l.length cur.size)) w':=by
 have hfresh:=h.mem.fresh (Nat.le_refl w.heap.size)
 refine h.birth hd hu (MLe.refl M) (by omega) (fun b hb=>⟨hold b hb,rfl⟩) ?_ hos htape hout (g:=.arr (some w.heap.size) 1 l.length cur.size) ?_ ?_ (.arr d _ _ _ _ (zw _ _ _))
 .refine ⟨?_,h.mem.good⟩
  intro b i v hv
  have hb:b<w.heap.size:=by
   rcases Nat.lt_or_ge b w.heap.size with h'|h'
   .exact h'
   .rw [h.mem.fresh h' i]at hv;cases hv
  rw[World.cell?_of_block (w:=w) (hold b hb)];exact h.mem b i v hv
 .intro b hb;cases hb;omega
 .exact ⟨w.heap.size,cur,zw _ _ _,hnew,ht,hc,hm,hfresh⟩
def zer(M:Mem)(o:AObj)(k n:Nat)(vs:List Value):Prop:=
 match o with
 | .barr _ _ l=>k=1/\n=l.length/\vs=l.map zat
 | .larr _ _ k' R=>k=k'/\n=R.n/\∀ i j,i<n->j<k->∃ v,vs[i*k+j]?=some v/\zR M (R.f i j) v
 | _=>False
def AObj.mu:AObj->Bool
 | .barr _ mu _=>mu
 | .larr _ mu _ _=>mu
 | _=>true
def AObj.elem:AObj->TypeId
 | .barr e _ _=>e
 | .larr e _ _ _=>e
 | _=>0
theorem OM.row{id:Nat}{o:AObj}{a:Option Nat}{k n cap:Nat}{vs:List Value}(hg:γ id=some (.arr a k n cap))(hr:zer M o k n vs)
 (hA:zb1 M w o.elem o.mu k n vs a cap):OM γ M w id o:=by
 cases o with
 | cells cs=>exact hr.elim
 | bcv _ _=>exact hr.elim
 | bldr _ _=>exact hr.elim
 | raw _=>exact hr.elim
 | mp _ _=>exact hr.elim
 | barr e mu l=>
  obtain⟨rfl,rfl,rfl⟩:=hr
  exact⟨a,cap,hg,hA⟩
 | larr e mu k' R=>
  obtain⟨rfl,rfl,hf⟩:=hr
  exact⟨a,cap,vs,hg,hf,hA⟩
theorem zer.mono{o:AObj}{k n:Nat}{vs:List Value}(h:zer M o k n vs)(hM:MLe M M'):zer M' o k n vs:=by
 cases o with
 | cells cs=>exact h.elim
 | bcv _ _=>exact h.elim
 | bldr _ _=>exact h.elim
 | raw _=>exact h.elim
 | mp _ _=>exact h.elim
 | barr e mu l=>exact h
 | larr e mu k' R=>
  obtain⟨h1,h2,h3⟩:=h
  exact⟨h1,h2,fun i j hi hj=>let ⟨v,hv,hp⟩:=h3 i j hi hj;⟨v,hv,hp.mono hM⟩⟩
def zb7(M:Mem)(mu:Bool)(g:Nat)(vs:List Value):Mem:=
 match mu with
 | true=>M
 | false=>upd M g (fun o=>vs[o]?)
theorem zsO{mu:Bool}{g:Nat}{vs:List Value}(h:∀ o v,M g o=some v->vs[o]?=some v):MLe M (zb7 M mu g vs):=by
 intro b o v hv
 cases mu with
 | true=>exact hv
 | false=>
  simp only[zb7]
  by_cases e:b=g
  .subst e;rw[zw];exact h o v hv
  .rw [zC _ _ e];exact hv
theorem zlN{mu:Bool}{g b:Nat}{vs:List Value}(h:b≠g):zb7 M mu g vs b=M b:=by
 cases mu with
 | true=>rfl
 | false=>exact zC _ _ h
theorem StG.row(h:StG C γ M s a w){d:Nat}(hd:yL C.nt (some d)=true)(hu:s.us d=false){o:AObj}{k n cap:Nat}{vs:List Value}
 {cur:Array Value} (hw:w'.heap=w.heap.push (.cells cur o.elem)) (hos:w'.os=w.os) (htape:w'.tape=w.tape) (hout:w'.output=w.output)
 (hlen:vs.length=n*k) (hn:n<=cap) (hcm:cap<=maxLen) (hcur:cur.size=cap*k) (htake:cur.toList.take (n*k)=vs)
 (h1:∀ v ∈ vs,v.oneCell'=true) (hr:zer M o k n vs):
 StG C (upd γ d (some (.arr (some w.heap.size) k n cap))) (zb7 M o.mu w.heap.size vs) { sl:=upd s.sl d (.arr d),ob:=upd s.ob d (some o),us:=upd s.us d true }
  (a.put (some d) (yX (some w.heap.size) n cap)) w':=by
 have hfresh:=h.mem.fresh (Nat.le_refl w.heap.size)
 have hM:MLe M (zb7 M o.mu w.heap.size vs):=zsO fun o v hv=>by rw[hfresh]at hv;cases hv
 have hsz:w'.heap.size=w.heap.size+1:=by rw[hw];simp
 have hnew:w'.heap[w.heap.size]?=some (.cells cur o.elem (0,0)):=by rw[hw];simp
 have hold:∀ b,b<w.heap.size->w'.heap[b]?=w.heap[b]?:=fun b hb=>by rw[hw,Array.getElem?_push,if_neg (by omega)]
 have hvs:∀ (j:Nat) (u:Value),vs[j]?=some u->cur[j]?=some u:=by
  intro j u hu
  rw[<-htake,List.getElem?_take]at hu
  split at hu
  .simpa using hu
  .cases hu
 refine h.birth hd hu hM (by omega) (fun b hb=>⟨hold b hb,zlN (by omega)⟩) ?_ hos htape hout (g:=.arr (some w.heap.size) k n cap) ?_ ?_ (.arr d _ _ _ _ (zw _ _ _))
 .refine ⟨?_,h.mem.good.mono hM⟩
  intro b i v hv
  by_cases e:b=w.heap.size
  .subst e
   rw[cell_of_row w' _ i cur _ (0,0) hnew]
   cases hmu:o.mu with
   | true=>rw[hmu]at hv;simp only[zb7]at hv;rw[hfresh]at hv;cases hv
   | false=>rw[hmu]at hv;simp only[zb7]at hv;rw[zw]at hv;exact hvs i v hv
  .rw [zlN e]at hv
   have hc:=h.mem b i v hv
   have hb:b<w.heap.size:=World.block_lt_of_cell? w ⟨b,i,none⟩ hc
   rw[World.cell?_of_block (w:=w) (hold b hb)];exact hc
 .intro b hb;cases hb;omega
 .refine OM.row (zw _ _ _) (hr.mono hM) ⟨⟨hlen,.inr ⟨_,_,cur,rfl,Nat.zero_le _,hnew,hn,hcm,hcur,htake⟩⟩,h1,Nat.le_trans hn hcm,?_⟩
  intro g hg
  cases hg
  cases hmu:o.mu with
  | true=>simp only[if_true];exact hfresh
  | false=>
   simp only[Bool.false_eq_true,if_false]
   intro i
   simp only[zb7]
   rw[zw]
def zH6:AV->Option PV
 | .p x=>some x
 | _=>none
def zzN:AV->Option UInt8
 | .p (.int .u8 n)=>some (UInt8.ofNat n.toNat)
 | _=>none
def zSa(P:Program)(e:TypeId):Bool:=match P.underlying e with|some (.int .u8)=>true|_=>false
def zN{α β:Type}(f:α->Option β):List α->Option (List β)
 | []=>some []
 | x::r=>match f x,zN f r with
  | some y,some ys=>some (y::ys)
  | _,_=>none
theorem za4{α β:Type}{f:α->Option β}:∀ {l:List α} {r:List β},zN f l=some r->r.length=l.length/\∀ (i:Nat) (x:α),l[i]?=some x->∃ y,r[i]?=some y/\f x=some y:=by
 intro l
 induction l with
 | nil=>intro r h;cases h;exact⟨rfl,fun i x hx=>by cases hx⟩
 | cons x l ih=>
  intro r h
  simp only[zN]at h
  cases hf:f x with
  | none=>rw[hf]at h;cases h
  | some y=>
   cases hr:zN f l with
   | none=>rw[hf,hr]at h;cases h
   | some ys=>
    rw[hf,hr]at h;cases h
    obtain⟨h1,h2⟩:=ih hr
    refine⟨by simp[h1],fun i z hz=>?_⟩
    cases i with
    | zero=>simp at hz;subst hz;exact⟨y,by simp,hf⟩
    | succ i=>simpa using h2 i z (by simpa using hz)
def zlG(P:Program)(e:TypeId)(mu:Bool)(k n:Nat)(cs:List AV):Option AObj:=
 match zSa P e&&Nat.beq k 1 with
 | true=>(zN zzN cs).map fun l=>.barr e mu l
 | false=>(zN zH6 cs).map fun l=>.larr e mu k (mkR (zxQ P 9 e) k n l)
theorem zop{n:Int}(h:IntKind.u8.has n):Value.int .u8 n=zat (UInt8.ofNat n.toNat):=by
 simp[IntKind.has,IntKind.min,IntKind.max,IntKind.signed,IntKind.bits]at h
 unfold zat
 congr 1
 simp
 omega
theorem zwW{e:TypeId}{mu:Bool}{k n:Nat}{cs:List AV}{o:AObj}(h:zlG P e mu k n cs=some o)(hl:cs.length=n*k){vs:Array Value}(hr:zyE γ M cs vs):
 o.elem=e/\o.mu=mu/\zer M o k n vs.toList:=by
 unfold zlG at h
 split at h
 .rename_i hk
  rw[Bool.and_eq_true]at hk
  have hk1:=Nat.eq_of_beq_eq_true hk.2
  subst hk1
  obtain⟨l,hl',he⟩:=map_some h
  cases he
  obtain⟨h1,h2⟩:=za4 hl'
  refine⟨rfl,rfl,rfl,by omega,?_⟩
  apply List.ext_getElem?
  intro i
  rw[List.getElem?_map]
  by_cases hi:i<cs.length
  .obtain ⟨y,hy,hf⟩:=h2 i _ (List.getElem?_eq_getElem hi)
   have hrel:=hr.2 i hi
   have hvi:i<vs.size:=by rw[hr.1];exact hi
   rw[List.getD_eq_getElem?_getD,List.getElem?_eq_getElem hi,Array.getD_eq_getD_getElem?,Array.getElem?_eq_getElem hvi]at hrel
   simp only[Option.getD_some]at hrel
   unfold zzN at hf
   split at hf
   .rename_i n' hx
    cases hf
    rw[hx]at hrel
    obtain⟨e1,e2⟩:=hrel.int_inv
    rw[hy,Array.getElem?_toList,Array.getElem?_eq_getElem hvi,e1,zop e2]
    rfl
   .cases hf
  .have e0:vs.toList[i]?=none:=by rw[List.getElem?_eq_none];rw[Array.length_toList,hr.1];omega
   have e1:l[i]?=none:=by rw[List.getElem?_eq_none];omega
   rw[e0,e1];rfl
 .obtain ⟨l,hl',he⟩:=map_some h
  cases he
  obtain⟨h1,h2⟩:=za4 hl'
  have hmk:=zJn (M:=M) (zxQ P 9 e) k n l
  refine⟨rfl,rfl,rfl,hmk.1.symm,?_⟩
  intro i j hi hj
  have hlt:i*k+j<cs.length:=by
   rw[hl]
   have:(i+1)*k<=n*k:=Nat.mul_le_mul_right k hi
   rw[Nat.add_mul,Nat.one_mul]at this
   omega
  obtain⟨y,hy,hf⟩:=h2 _ _ (List.getElem?_eq_getElem hlt)
  have hrel:=hr.2 _ hlt
  have hvi:i*k+j<vs.size:=by rw[hr.1];exact hlt
  rw[List.getD_eq_getElem?_getD,List.getElem?_eq_getElem hlt,Array.getD_eq_getD_getElem?,Array.getElem?_eq_getElem hvi]at hrel
  simp only[Option.getD_some]at hrel
  refine⟨_,by rw[Array.getElem?_toList,Array.getElem?_eq_getElem hvi],?_⟩
  unfold zH6 at hf
  split at hf
  .rename_i q hx
   cases hf
   rw[hx]at hrel
   refine hmk.2 i j hi hj _ ?_
   rw[List.getD_eq_getElem?_getD,hy]
   exact hrel.p_inv
  .cases hf
end Go.Am
namespace Go.Am
open Go Go.RowKit
variable {P:Program}{γ γ':Nat->Option G}{M M':Mem}{C:Ctx}{s s':S}{a a':Act}{w w':World}
def ziS(P:Program)(t:TypeId):Option Nat:=(P.info? t).map (·.bytes)
def zjF(P:Program)(t n:Nat)(ix:List Nat)(xs:List AV):Option (AObj×Option Prop):=
 match zdn P t with
 | some e=>match zaH P e,zf1 P e with
  | some (k+1),some z=>match Nat.ble (n*(k+1)) 16777216 with
   | true=>match zqc (fun i=>some (i*(k+1),k+1)) ((List.range (n*(k+1))).map fun i=>z.getD (i % z.length) .any) (ix.zip xs)with
    | some cs=>(zlG P e false (k+1) n cs).map fun o=>(o,none)
    | none=>none
   | false=>none
  | _,_=>none
 | none=>none
def zpB:PV->Bool
 | .int .u8 0=>true
 | _=>false
def zmE(P:Program)(t:TypeId):List AV->Option (AObj×Option Prop)
 | [.p (.int _ l),.p (.int _ c)]=>match zdn P t with
  | some e=>match zaH P e,zf1 P e,ziS P e with
   | some 1,some [.p z],some by'=>match zSa P e with
    | true=>match zpB z with
     | true=>some (.barr e true (List.replicate l.toNat 0),some (0<=l/\l<=c/\(by':Int)*c<=281474976710656/\c<=9223372036854775807))
     | false=>none
    | false=>some (.larr e true 1 (zNW (zxQ P 9 e) l.toNat z),some (0<=l/\l<=c/\(by':Int)*c<=281474976710656/\c<=9223372036854775807))
   | _,_,_=>none
  | none=>none
 | _=>none
def zJz(P:Program)(e:TypeId):Bool:=match P.underlying e with|some (.int .u8)=>true|_=>false
def zDF(P:Program)(s:TypeId):Bool:=match P.underlying s with|some .string=>true|_=>false
def zlX(P:Program)(sT d:TypeId):List AV->Option (AObj×Option Prop)
 | [.p (.str l)]=>match zdn P d with
  | some e=>match zJz P e&&zDF P sT with
   | true=>some (.bcv e l,none)
   | false=>none
  | none=>none
 | _=>none
def zTJ(P:Program)(t:TypeId):Bool:=
 match P.underlying t with
 | some (.struct fs)=>match fs.toList with
  | [f,g]=>(match P.underlying f.type with|some (.pointer t')=>Nat.beq t t'|_=>false)&&(match P.underlying g.type with|some (.slice e)=>zJz P e|_=>false)
  | _=>false
 | _=>false
def evB(P:Program)(op:Op)(xs:List AV):Option (AObj×Option Prop):=
 match op with
 | .alloc t=>match zTJ P t with
  | true=>match zf1 P t with
   | some [.p (.plain (.pointer none)),.p .nil]=>some (.bldr t (.p .nil),none)
   | _=>none
  | false=>(zf1 P t).map fun cs=>(.cells cs,none)
 | .box _ _=>match xs with
  | [x]=>match x.cells? with
   | some cs=>match cs.all AV.one with
    | true=>some (.cells cs,none)
    | false=>none
   | none=>none
  | _=>none
 | .buildSlice t n ps=>zjF P t n (ps.toList.map (·.1)) xs
 | .makeSlice t _ _=>zmE P t xs
 | .makeMap t none=>(zAG P t).map fun q=>(.mp q.2 [],none)
 | _=>none
def AObj.handle(d:Nat):AObj->AV
 | .cells _=>.ref d 0
 | .bldr _ _=>.ref d 0
 | .mp _ _=>.mref d
 | _=>.arr d
def yI(s:S)(d:Nat)(o:AObj):S:={ sl:=upd s.sl d (o.handle d),ob:=upd s.ob d (some o),us:=upd s.us d true }
theorem zsF{cs:List AV}{vs:Array Value}(h:zyE γ M cs vs)(h1:cs.all AV.one=true):∀ j,j<cs.length->(vs.getD j undef).oneCell'=true:=by
 intro j hj
 have hr:=h.2 j hj
 refine hr.oneCell ?_
 rw[List.getD_eq_getElem?_getD,List.getElem?_eq_getElem hj]
 exact(List.all_eq_true.1 h1) _ (List.getElem_mem hj)
theorem zHV{z:Value}(h:∀ v ∈ z.cells.toList,v.oneCell'=true):∀ j,j<(z.cells.toList.map ziX).length->(z.cells.getD j undef).oneCell'=true:=by
 intro j hj
 have hj':j<z.cells.size:=by simpa using hj
 rw[Array.getD_eq_getD_getElem?,Array.getElem?_eq_getElem hj']
 exact h _ (by simp)
theorem zEO{z:Value}(n:Nat)(γ:Nat->Option G)(M:Mem):
 zyE γ M ((List.range n).map fun i=>(z.cells.toList.map ziX).getD (i % (z.cells.toList.map ziX).length) .any) ((Array.range n).map (z.cells[· % z.cells.size]!)):=by
 refine⟨by simp,fun j hj=>?_⟩
 have hj':j<n:=by simpa using hj
 have e1:((List.range n).map fun i=>(z.cells.toList.map ziX).getD (i % (z.cells.toList.map ziX).length) .any).getD j .any=(z.cells.toList.map ziX).getD (j % z.cells.size) .any:=by
  rw[List.getD_eq_getElem?_getD,List.getElem?_map,List.getElem?_range hj'];simp
 have e2:((Array.range n).map (z.cells[· % z.cells.size]!)).getD j undef=z.cells[j % z.cells.size]!:=by
  rw[Array.getD_eq_getD_getElem?];simp[hj']
 rw[e1,e2]
 by_cases hz:j % z.cells.size<z.cells.size
 .have:=(zbK γ M z.cells).2 (j % z.cells.size) (by simpa using hz)
  rw[getElem!_pos z.cells _ hz]
  rw[Array.getD_eq_getD_getElem?,Array.getElem?_eq_getElem hz]at this
  exact this
 .have e3:(z.cells.toList.map ziX).getD (j % z.cells.size) .any=.any:=by
   rw[List.getD_eq_getElem?_getD,List.getElem?_eq_none (by simp;omega)];rfl
  rw[e3];exact .any _
theorem zo7{e:TypeId}{mu:Bool}{k n:Nat}{cs:List AV}{o:AObj}(h:zlG P e mu k n cs=some o):∀ d,o.handle d=.arr d:=by
 unfold zlG at h
 split at h
 .obtain ⟨l,_,rfl⟩:=map_some h;exact fun d=>rfl
 .obtain ⟨l,_,rfl⟩:=map_some h;exact fun d=>rfl
theorem zvi(place:Nat->Option (Nat×Nat)):∀ (xs:List (Nat×AV)) (cs r:List AV),zqc place cs xs=some r->r.length=cs.length:=by
 intro xs
 induction xs with
 | nil=>intro cs r h;cases h;rfl
 | cons x xs ih=>
  intro cs r h
  obtain⟨i,x⟩:=x
  simp only[zqc]at h
  split at h
  .split at h
   .rename_i hb
    rw[Bool.and_eq_true]at hb
    rw[ih _ _ h,zcx (Nat.le_of_ble_eq_true hb.2)]
   .cases h
  .cases h
theorem zGG(hs:StG C γ M s a w)(o:Oper){d:Nat}(hdst:o.dst=some d)(hd:yL C.nt (some d)=true)(hu:s.us d=false)
 {xs:List AV} {ob:AObj} {ok:Option Prop} (h:evB P o.op xs=some (ob,ok)) (hok:okP ok)
 {ρ:Operand->Value} (hx:zB γ M xs (o.op.operands.toList.map ρ)):
 ∃ v w' γ' M',(execOp ρ o).run P w=.ok (.value v) w'/\StG C γ' M' (yI s d ob) (a.put (some d) v) w':=by
 obtain⟨dst,op,type,pos,after,guard⟩:=o
 dsimp only at hx h hdst
 subst hdst
 cases op <;> simp only[evB,reduceCtorEq]at h <;> simp only[Op.operands,List.map_cons,List.map_nil]at hx
 case alloc t=>
  split at h
  .split at h
   .rename_i hz
    cases h
    obtain⟨i,z,hi,hzv,h1,he⟩:=zb2 hz
    obtain⟨v0,v1,hcz⟩:∃ v0 v1,z.cells=#[v0,v1]:=by
     have hl:=congrArg List.length he
     simp at hl
     match hq:z.cells,hl with
     | ⟨[v0,v1]⟩,_=>exact⟨v0,v1,rfl⟩
    have hrel:=zbK γ M z.cells
    rw[<-he]at hrel
    have r0:=hrel.2 0 (by simp)
    have r1:=hrel.2 1 (by simp)
    have hv0:v0=.pointer none:=by
     have:zp γ M (.p (.plain (.pointer none))) v0:=by simpa[hcz]using r0
     cases this.p_inv;rfl
    have hv1:v1=.slice none 0 0:=by
     have:zp γ M (.p .nil) v1:=by simpa[hcz]using r1
     cases this.p_inv;rfl
    subst hv0 hv1
    refine⟨_,_,_,_,?_,hs.bldr hd hu t⟩
    simp[execOp,Instr.alloc,zeroValue,typeInfo,hi,hzv,newVar,newRow,hcz]
   .cases h
  obtain⟨cs,hz,he⟩:=map_some h
  cases he
  obtain⟨i,z,hi,hzv,h1,rfl⟩:=zb2 hz
  refine⟨_,_,_,_,?_,hs.cells hd hu t (zbK γ M z.cells) (zHV h1)⟩
  simp[execOp,Instr.alloc,zeroValue,typeInfo,hi,hzv,newVar,newRow]
 case makeMap t r=>
  split at h
  all_goals try (cases h;done)
  all_goals first
   | (rename_i heq;cases heq)
   | skip
  obtain⟨q,hq,he⟩:=map_some h
  cases he
  exact⟨_,_,_,_,by simp[execOp,Instr.makeMap],hs.mpb hd hu q.2⟩
 case box t x=>
  cases hx with
  | cons hx ht=>
   cases ht with
   | nil=>
    rename_i u
    dsimp only at h
    cases hc:u.cells? with
    | none=>rw[hc]at h;cases h
    | some cs=>
     rw[hc]at h
     dsimp only at h
     cases hall:cs.all AV.one with
     | false=>rw[hall]at h;cases h
     | true=>
      rw[hall]at h
      cases h
      have hr:=zdC hc hx
      refine⟨_,_,_,_,?_,hs.cells hd hu t hr (zsF hr hall)⟩
      simp[execOp,Instr.box,newVar,newRow]
 case buildSlice t n ps=>
  unfold zjF at h
  split at h
  .rename_i e0 he
   split at h
   .rename_i k z hk hz
    split at h
    .rename_i hb
     have hb:=Nat.le_of_ble_eq_true hb
     split at h
     .rename_i cs hf
      obtain⟨o',hro,he'⟩:=map_some h
      cases he'
      obtain⟨i,zv,hi,hzv,h1,rfl⟩:=zb2 hz
      have hx':zB γ M xs (ps.toList.map fun p=>ρ p.2):=by simpa[Function.comp_def]using hx
      obtain⟨cells',hc1,hc2⟩:=zpQ (γ:=γ) (M:=M) (fun i=>some (i*(k+1),k+1)) _ _ _ _ _ hf (zmS.of hx' rfl) (zEO (z:=zv) _ γ M)
      have hlen:cs.length=n*(k+1):=by rw[zvi _ _ _ _ hf];simp
      obtain⟨q1,q2,q3⟩:=zwW (γ:=γ) (M:=M) hro hlen hc2
      have hsz:cells'.size=n*(k+1):=by rw[hc2.1,hlen]
      have hnm:n<=maxLen:=by
       have:n*1<=n*(k+1):=Nat.mul_le_mul_left n (by omega)
       unfold maxLen;omega
      have hone:∀ v ∈ cells'.toList,v.oneCell'=true:=by
       intro v hv
       obtain⟨j,hj,rfl⟩:=List.getElem_of_mem hv
       have hj':j<cells'.size:=by simpa using hj
       have hr:=hc2.2 j (by rw[<-hc2.1];exact hj')
       rw[Array.getD_eq_getD_getElem?,Array.getElem?_eq_getElem hj']at hr
       have:(cs.getD j .any).one=true:=by
        unfold zlG at hro
        have hjc:j<cs.length:=by rw[<-hc2.1];exact hj'
        split at hro
        .obtain ⟨l,hl,_⟩:=map_some hro
         obtain⟨y,_,hf⟩:=(za4 hl).2 j _ (List.getElem?_eq_getElem hjc)
         rw[List.getD_eq_getElem?_getD,List.getElem?_eq_getElem hjc]
         unfold zzN at hf
         split at hf
         .rename_i hq;simp only[Option.getD_some];rw[hq];rfl
         .cases hf
        .obtain ⟨l,hl,_⟩:=map_some hro
         obtain⟨y,_,hf⟩:=(za4 hl).2 j _ (List.getElem?_eq_getElem hjc)
         rw[List.getD_eq_getElem?_getD,List.getElem?_eq_getElem hjc]
         unfold zH6 at hf
         split at hf
         .rename_i hq;simp only[Option.getD_some];rw[hq];rfl
         .cases hf
       exact hr.oneCell this
      have hrow:=hs.row (w':=w.alloc (.cells cells' e0)) hd hu (o:=ob) (k:=k+1) (n:=n) (cap:=n) (vs:=cells'.toList) (cur:=cells')
       (by rw[q1];rfl) rfl rfl rfl (by simp[hsz]) (Nat.le_refl _) hnm hsz (by rw[List.take_of_length_le (by simp[hsz])]) hone q3
      have hh:ob.handle d=.arr d:=zo7 hro d
      have e1:yI s d ob={ sl:=upd s.sl d (.arr d),ob:=upd s.ob d (some ob),us:=upd s.us d true }:=by unfold yI;rw[hh]
      refine⟨_,_,_,_,?_,by rw[e1];exact hrow⟩
      have hle:¬ (n*(k+1)>2^24):=by omega
      have hu':=zaA he
      have e:(ps.map fun(x:Nat×Operand)=>(x.1,ρ x.2)).toList=ps.toList.map fun p=>(p.1,ρ p.2):=by simp
      by_cases h0:n*(k+1)=0
      .have hc':Instr.fill (fun i=>some (i*(k+1),k+1)) #[] (ps.map fun(x:Nat×Operand)=>(x.1,ρ x.2)).toList=some cells':=by
        rw[e]
        have:=hc1
        rw[h0]at this
        simpa[Array.range_zero']using this
       have hrun:(Instr.buildSlice t n (ps.map fun(x:Nat×Operand)=>(x.1,ρ x.2))).run P w=.ok (yX (some w.heap.size) n n) (w.alloc (.cells cells' e0)):=by
        simp only[Instr.buildSlice,Sem.run_bind,run_underlying hu',Result.andThen_ok,yu hk,h0,if_true,Array.range_zero',Array.map_empty,hc',newRow]
        rfl
       simp only[execOp,Sem.run_bind]
       rw[hrun]
       rfl
      .have hc':Instr.fill (fun i=>some (i*(k+1),k+1)) ((Array.range (n*(k+1))).map (zv.cells[· % zv.cells.size]!)) (ps.map fun(x:Nat×Operand)=>(x.1,ρ x.2)).toList=some cells':=by
        rw[e];exact hc1
       have hrun:(Instr.buildSlice t n (ps.map fun(x:Nat×Operand)=>(x.1,ρ x.2))).run P w=.ok (yX (some w.heap.size) n n) (w.alloc (.cells cells' e0)):=by
        simp only[Instr.buildSlice,Sem.run_bind,run_underlying hu',Result.andThen_ok,yu hk,hle,if_false,h0,zeroValue,typeInfo,run_program,hi,Sem.run_pure,hzv,hc',newRow]
        rfl
       simp only[execOp,Sem.run_bind]
       rw[hrun]
       rfl
     .cases h
    .cases h
   .cases h
  .cases h
 case makeSlice t l c=>
  cases hx with
  | cons hx1 ht=>
   cases ht with
   | cons hx2 ht=>
    cases ht with
    | nil=>
     unfold zmE at h
     split at h
     .rename_i k1 l' k2 c' heq
      cases heq
      split at h
      .rename_i e he
       split at h
       .rename_i z by' hk hz hby
        have e1:=hx1.int_inv.1
        have e2:=hx2.int_inv.1
        obtain⟨i,zv,hi,hzv,h1,hzz⟩:=zb2 hz
        have hzsz:zv.cells.size=1:=by have:=congrArg List.length hzz;simpa using this.symm
        have hbi:i.bytes=by':=by unfold ziS at hby;rw[hi]at hby;injection hby
        have hsi:i.size=1:=by unfold zaH at hk;rw[hi]at hk;injection hk
        have key:∀ o':AObj,o'.elem=e->(∀ d,o'.handle d=.arr d)->(∀ u,zv.cells=#[u]->zR M z u->zer M o' 1 l'.toNat (List.replicate l'.toNat u))->
         (0<=l'/\l'<=c'/\(by':Int)*c'<=281474976710656/\c'<=9223372036854775807)->
         ∃ v w' γ' M',(execOp ρ ⟨some d,.makeSlice t l c,type,pos,after,guard⟩).run P w=.ok (.value v) w'/\StG C γ' M' (yI s d o') (a.put (some d) v) w':=by
         intro o' hel hha hrw hc
         obtain⟨u,hu'⟩:∃ u,zv.cells=#[u]:=by
          match hq:zv.cells,hzsz with
          | ⟨[u]⟩,_=>exact⟨u,rfl⟩
         have hzu:zR M z u:=by
          have:=(zbK (fun _=>none) M zv.cells).2 0 (by simp[hu'])
          rw[<-hzz]at this
          simp[hu']at this
          exact this.p_inv
         have hrun:=run_make (P:=P) w t e i zv (zaA he) hi hzv k1 k2 l' c' hc.1 hc.2.1 (by rw[hbi];exact hc.2.2.1) hc.2.2.2
         have hmc:(madeCells zv.cells (c'.toNat*i.size)).toList=List.replicate c'.toNat u:=by
          rw[hsi,Nat.mul_one,hu',toList_madeCells_one]
         have hrow:=hs.row (w':=w.alloc (.cells (madeCells zv.cells (c'.toNat*i.size)) e)) hd hu (o:=o') (k:=1) (n:=l'.toNat) (cap:=c'.toNat) (vs:=List.replicate l'.toNat u) (cur:=madeCells zv.cells (c'.toNat*i.size))
          (by rw[hel];rfl) rfl rfl rfl (by simp) (by omega) (by unfold maxLen;omega) (by rw[size_madeCells,hsi]) (by
           rw[hmc,List.take_replicate];congr 1;omega) (by
           intro v hv;rw[List.mem_replicate]at hv;rw[hv.2];exact hzu.oneCell) (hrw u hu' hzu)
         have e3:yI s d o'={ sl:=upd s.sl d (.arr d),ob:=upd s.ob d (some o'),us:=upd s.us d true }:=by unfold yI;rw[hha]
         refine⟨_,_,_,_,?_,by rw[e3];exact hrow⟩
         simp only[execOp,e1,e2,Sem.run_bind,hrun,Result.andThen_ok]
         rfl
        split at h
        .split at h
         .rename_i hzb
          cases h
          refine key _ rfl (fun d=>rfl) (fun u hu' hzu=>⟨rfl,by simp,?_⟩) hok
          unfold zpB at hzb
          split at hzb
          .have:=hzu.int_inv.1
           rw[this,List.map_replicate];rfl
          .cases hzb
         .cases h
        .cases h
         have hrp:=zE9 (M:=M) (zxQ P 9 e) l'.toNat z
         refine key _ rfl (fun d=>rfl) (fun u hu' hzu=>⟨rfl,hrp.1.symm,fun i j hi hj=>⟨u,?_,hrp.2 i j hi hj u hzu⟩⟩) hok
         have:j=0:=by omega
         subst this
         rw[List.getElem?_replicate];simp[hi]
       .cases h
      .cases h
     .cases h
theorem zrH(hs:StG C γ M s a w)(o:Oper){d:Nat}(hdst:o.dst=some d)(hd:yL C.nt (some d)=true)(hu:s.us d=false){sT d2:TypeId}{x:Operand}(hop:o.op=.convert sT d2 x)
 {xs:List AV} {ob:AObj} {ok:Option Prop} (h:zlX P sT d2 xs=some (ob,ok)) {ρ:Operand->Value} (hx:zB γ M xs (o.op.operands.toList.map ρ)):
 ∃ v w' γ' M',(execOp ρ o).run P w=.ok (.value v) w'/\StG C γ' M' (yI s d ob) (a.put (some d) v) w':=by
 obtain⟨dst,op,type,pos,after,guard⟩:=o
 dsimp only at hx hdst hop
 subst hdst hop
 simp only[Op.operands,List.map_cons,List.map_nil]at hx
 unfold zlX at h
 split at h
 .rename_i l
  split at h
  .rename_i e he
   split at h
   .rename_i hb
    cases h
    cases hx with
    | cons hx ht=>
     cases ht with
     | nil=>
      rw[Bool.and_eq_true]at hb
      have hu8:P.underlying e=some (.int .u8):=by
       have:=hb.1;unfold zJz at this;split at this
       .assumption
       .cases this
      have hst:∃ u,P.underlying sT=some u:=by
       have:=hb.2;unfold zDF at this;split at this
       .exact ⟨_,by assumption⟩
       .cases this
      obtain⟨u,hst⟩:=hst
      obtain⟨hv,hm⟩:=hx.p_inv.str_inv
      have hrun:=Lib.run_convert_string_bytes (P:=P) w sT d2 e ⟨l.toArray⟩ hst (zaA he) hu8
      have hge:=grownCap_ge w l.length 0 e
      have hcs:(Lib.bytesCells w e ⟨l.toArray⟩).size=grownCap w l.length 0 e:=by
       simp[Lib.bytesCells,ByteArray.size];omega
      refine⟨_,_,_,_,?_,hs.bcv hd hu (l:=l) (e:=e) (w':=Lib.bytesWorld w e ⟨l.toArray⟩) (cur:=Lib.bytesCells w e ⟨l.toArray⟩) (Lib.bytesWorld_size w e _) (fun j hj=>Lib.bytesWorld_at_old w e _ j hj) (Lib.bytesWorld_at_new w e _) ?_ (by rw[hcs];exact hge) hm rfl rfl rfl⟩
      .have e2:((⟨l.toArray⟩:ByteArray).size)=l.length:=by simp[ByteArray.size]
       simp only[execOp,hv,Sem.run_bind,hrun,Result.andThen_ok]
       rw[e2,<-hcs]
       rfl
      .simp [Lib.bytesCells,zat]
   .cases h
  .cases h
 .cases h
end Go.Am
/-! append. -/
namespace Go.Am
open Go Go.RowKit
variable {P:Program}{γ γ':Nat->Option G}{M M':Mem}{C:Ctx}{s s':S}{a a':Act}{w w':World}
theorem zhR(t tx ty e:TypeId)(i:TypeInfo)(ht:P.underlying t=some (.slice e))(hi:P.info? e=some i)(g sLen sCap:Nat)(cur:Array Value)
 (hg:w.heap[g]?=some (.cells cur e (0,0))) (x:Value) (n:Nat) (news:List Value) (hs:Src P i.size tx x n news w)
 (hroom:sLen+n<=sCap) (hfit:sLen*i.size+news.length<=cur.size):
 (Builtin.append_ #[t,tx] ty #[.slice (some ⟨g,0,none⟩) sLen sCap,x]).run P w=
  .ok (.slice (some ⟨g,0,none⟩) (sLen+n) sCap) (w.setRow g (cur.toList.take (sLen*i.size)++news++cur.toList.drop (sLen*i.size+news.length)).toArray):=by
 have hst:=run_storeCells_at P g (sLen*i.size) e news 0 cur w hg (by simpa using hfit) hs.one
 simp only[Nat.add_zero]at hst
 rcases hs.kind with⟨e',hk⟩|hk <;> simp[Builtin.append_,run_underlying ht,run_underlying hk,sizeOf,typeInfo,hi,hs.len,hroom,hs.cells,Addr.add_lit,hst]
structure zSV(w w':World)(a a':Option Nat):Prop where
 os:w'.os=w.os
 tape:w'.tape=w.tape
 output:w'.output=w.output
 size:w.heap.size<=w'.heap.size
 other:∀ b,b<w.heap.size->some b≠a->w'.heap[b]?=w.heap[b]?
 at_:a'=a\/∃ g,a'=some g/\w.heap.size<=g/\g<w'.heap.size/\∀ b,b<w.heap.size->w'.heap[b]?=w.heap[b]?
theorem zo5{e:TypeId}{mu:Bool}{k n:Nat}{vs:List Value}{ad:Option Nat}{cap:Nat}(hA:zb1 M w e mu k n vs ad cap)
 (t tx ty:TypeId) (i:TypeInfo) (z:Value) (ht:P.underlying t=some (.slice e)) (hi:P.info? e=some i) (hz:i.zero=some z) (hk:i.size=k) (hzk:z.cells.size=k) (hk0:0<k)
 (x:Value) (m:Nat) (news:List Value) (hs:Src P k tx x m news w) (h63:n+m<=maxLen) (hby:(n+m)*i.bytes<=140737488355328):
 ∃ a' cap' w',(Builtin.append_ #[t,tx] ty #[yX ad n cap,x]).run P w=.ok (yX a' (n+m) cap') w'/\
  w'.ownsRow 0 e k (yX a' (n+m) cap') (n+m) (vs++news)/\zSV w w' ad a':=by
 subst hk
 have h63':((n+m:Nat):Int)<=9223372036854775807:=by unfold maxLen at h63;omega
 have hlenA:=hA.own.1
 have hln:news.length=m*i.size:=hs.newsLen
 have grow:∀ (base:Option Addr) (c:Nat),c<n+m->(Builtin.firstCells i.size n (.slice base n c)).run P w.drew=.ok vs.toArray w.drew->
  ∃ a' cap' w',(Builtin.append_ #[t,tx] ty #[.slice base n c,x]).run P w=.ok (yX a' (n+m) cap') w'/\
  w'.ownsRow 0 e i.size (yX a' (n+m) cap') (n+m) (vs++news)/\zSV w w' ad a':=by
  intro base c hc hold
  have hr:=run_append_grow_src (P:=P) w t tx ty e i z ht hi hz base n c vs hold x m news hs hc h63' (growslice_fits hc hby)
  have hge:=grownCap_ge w (n+m) c e
  have hcm:grownCap w (n+m) c e<=maxLen:=grownCap_le_maxLen w (n+m) c e h63
  refine⟨some w.heap.size,_,_,hr,⟨by rw[List.length_append,hlenA,hln,Nat.add_mul],.inr ⟨w.heap.size,_,_,rfl,Nat.zero_le _,heap_alloc_new w.drew _,hge,hcm,?_,?_⟩⟩,
   ⟨rfl,rfl,rfl,by simp,fun b hb _=>heap_alloc_old w.drew _ hb,.inr ⟨w.heap.size,rfl,Nat.le_refl _,by simp,fun b hb=>heap_alloc_old w.drew _ hb⟩⟩⟩
  .simp only[Array.size_append,List.size_toArray,size_zeroCells,hzk,List.length_append,hlenA,hln,<-Nat.add_mul]
   congr 1
   omega
  .simp only[Array.toList_append]
   have:(vs++news).length=(n+m)*i.size:=by rw[List.length_append,hlenA,hln,Nat.add_mul]
   rw[<-this]
   exact List.take_left
 rcases hA.own.2 with⟨hv,hn⟩|⟨g,cap',cur,hv,_,hg,hnc,hcm,hcs,htake⟩
 .subst hn
  have hx:vs=[]:=List.eq_nil_of_length_eq_zero (by simpa using hlenA)
  subst hx
  have had:ad=none/\cap=0:=by
   cases ad with
   | none=>simp[yX]at hv;exact⟨rfl,hv⟩
   | some g=>simp[yX]at hv
  obtain⟨rfl,rfl⟩:=had
  by_cases hm:m=0
  .subst hm
   have hnw:news=[]:=List.eq_nil_of_length_eq_zero (by simpa using hln)
   subst hnw
   refine⟨none,0,w,?_,⟨by simp,.inl ⟨rfl,rfl⟩⟩,⟨rfl,rfl,rfl,Nat.le_refl _,fun _ _ _=>rfl,.inl rfl⟩⟩
   rcases hs.kind with⟨e',hk⟩|hk <;> simp[Builtin.append_,yX,run_underlying ht,run_underlying hk,sizeOf,typeInfo,hi,hs.len,hs.cells]
  .exact grow none 0 (by omega) (by simp[Builtin.firstCells])
 .have had:ad=some g/\cap=cap':=by
   cases ad with
   | none=>simp[yX]at hv
   | some g'=>simp[yX]at hv;exact⟨by rw[hv.1],hv.2⟩
  obtain⟨rfl,rfl⟩:=had
  by_cases hroom:n+m<=cap
  .have hfit:n*i.size+news.length<=cur.size:=by rw[hln,hcs,<-Nat.add_mul];exact Nat.mul_le_mul_right _ hroom
   have hr:=zhR (P:=P) t tx ty e i ht hi g n cap cur hg x m news hs hroom hfit
   refine⟨some g,cap,_,hr,⟨by rw[List.length_append,hlenA,hln,Nat.add_mul],.inr ⟨g,cap,_,rfl,Nat.zero_le _,setRow_heap w g cur _ e _ hg,hroom,hcm,?_,?_⟩⟩,
    ⟨rfl,rfl,rfl,by simp,fun b _ hb=>setRow_other w g b _ (fun e=>hb (by rw[e])),.inl rfl⟩⟩
   .simp only[List.size_toArray,List.length_append,List.length_take,List.length_drop,Array.length_toList]
    omega
   .rw [htake]
    have:(vs++news).length=(n+m)*i.size:=by rw[List.length_append,hlenA,hln,Nat.add_mul]
    rw[<-this]
    exact List.take_left
  .refine grow (some ⟨g,0,none⟩) cap (by omega) ?_
   have hc:∀ j u,vs[j]?=some u->w.drew.cell? ((⟨g,0,none⟩:Addr).add j)=some u:=fun j u hu=>by
    have:=hA.cell j u hu
    rw[zad,Nat.zero_add]
    simpa using this
   exact run_firstCells_some (P:=P) w.drew i.size n ⟨g,0,none⟩ n cap vs hlenA hc
def zti(P:Program)(ob:Nat->Option AObj)(tx:TypeId):AV->Option (List UInt8)
 | .p .nil=>yV (yK P tx) []
 | .p (.bytes l)=>yV (yK P tx) l
 | .p (.str l)=>yV (zaY P tx) l
 | .arr id=>match ob id with
  | some (.barr _ _ l)=>yV (yK P tx) l
  | _=>none
 | _=>none
def zth(P:Program)(ob:Nat->Option AObj)(tx:TypeId)(k:Nat):AV->Option Rows
 | .p .nil=>yV (yK P tx) (.fn 0 fun _ _=>.bad)
 | .p (.list k' R)=>yV (yK P tx&&Nat.beq k k') R
 | .arr id=>match ob id with
  | some (.larr _ _ k' R)=>yV (yK P tx&&Nat.beq k k') R
  | _=>none
 | _=>none
theorem zeB{k:Nat}{tx:TypeId}(ht:yK P tx=true){ad:Addr}{n cap:Nat}{news:List Value}(hl:news.length=n*k)
 (hc:∀ j u,news[j]?=some u->w.cell? (ad.add j)=some u) (h1:∀ u ∈ news,u.oneCell'=true):Src P k tx (.slice (some ad) n cap) n news w:=by
 obtain⟨e,he⟩:=yG ht
 exact Src.ofSlice w he ad n cap news hl hc h1
theorem zl2(l:List UInt8):∀ u ∈ l.map zat,u.oneCell'=true:=by
 intro u hu
 obtain⟨c,_,rfl⟩:=List.mem_map.1 hu
 rfl
theorem zmQ(hs:StG C γ M s a w){tx:TypeId}{y:AV}{l:List UInt8}(h:zti P s.ob tx y=some l){v:Value}(hy:zp γ M y v):
 Src P 1 tx v l.length (l.map zat) w:=by
 have nilS:∀ {ht:yK P tx=true},Src P 1 tx (.slice none 0 0) 0 [] w:=fun {ht}=>by
  obtain⟨e,he⟩:=yG ht
  exact Src.ofNil w he 0
 cases y with
 | p q=>
  cases q with
  | nil=>
   obtain⟨ht,rfl⟩:=zI h
   cases hy.p_inv
   exact nilS (ht:=ht)
  | bytes l'=>
   obtain⟨ht,rfl⟩:=zI h
   rcases zhk hy.p_inv with⟨rfl,rfl⟩|⟨b,off,cap,rfl,hm,hc,hM⟩
   .exact nilS (ht:=ht)
   .refine zeB ht (by simp) (fun j u hu=>?_) (zl2 _)
    rw[zad]
    rw[List.getElem?_map]at hu
    cases hc':l'[j]? with
    | none=>rw[hc']at hu;cases hu
    | some c=>rw[hc']at hu;cases hu;exact hs.mem _ _ _ (hM j c hc')
  | str l'=>
   obtain⟨ht,rfl⟩:=zI h
   obtain⟨rfl,_⟩:=hy.str_inv
   have:=Src.ofString (P:=P) w (zby ht) ⟨l'.toArray⟩
   have e1:byteCells ⟨l'.toArray⟩=l'.map zat:=rfl
   rw[e1]at this
   exact this
  | _=>cases h
 | arr id=>
  dsimp only[zti]at h
  cases ho:s.ob id with
  | none=>rw[ho]at h;cases h
  | some o=>
   rw[ho]at h
   cases o with
   | barr e mu l'=>
    obtain⟨ht,rfl⟩:=zI h
    obtain⟨ad,k,n,cap,hg,rfl⟩:=hy.arr_inv
    obtain⟨a2,cap2,hg',hA⟩:=hs.ob id _ ho
    rw[hg]at hg';cases hg'
    cases ad with
    | none=>
     have h0:=hA.none
     have hl:l'=[]:=List.eq_nil_of_length_eq_zero h0.1
     subst hl
     rw[h0.2]
     exact nilS (ht:=ht)
    | some g=>
     refine zeB ht (by simp) (fun j u hu=>?_) (zl2 _)
     rw[zad,Nat.zero_add]
     exact hA.cell j u hu
   | _=>cases h
 | _=>cases h
theorem zmO(hs:StG C γ M s a w){tx:TypeId}{y:AV}{k:Nat}{R:Rows}(h:zth P s.ob tx k y=some R){v:Value}(hy:zp γ M y v):
 ∃ news,Src P k tx v R.n news w/\∀ i j,i<R.n->j<k->∃ u,news[i*k+j]?=some u/\zR M (R.f i j) u:=by
 have nilS:∀ {ht:yK P tx=true},Src P k tx (.slice none 0 0) 0 [] w:=fun {ht}=>by
  obtain⟨e,he⟩:=yG ht
  exact Src.ofNil w he 0
 cases y with
 | p q=>
  cases q with
  | nil=>
   obtain⟨ht,he⟩:=zI h
   cases he
   cases hy.p_inv
   exact⟨[],nilS (ht:=ht),fun i j hi _=>absurd hi (Nat.not_lt_zero _)⟩
  | list k' R'=>
   obtain⟨ht,he⟩:=zI h
   cases he
   rw[Bool.and_eq_true]at ht
   have hk:=Nat.eq_of_beq_eq_true ht.2
   subst hk
   cases hy.p_inv with
   | listNil k R h0=>exact⟨[],by rw[h0];exact nilS (ht:=ht.1),fun i j hi _=>by omega⟩
   | listZero k R a h0=>exact⟨[],by rw[h0];exact zeB ht.1 (by simp) (fun j u hu=>by simp at hu) (fun u hu=>by cases hu),fun i j hi _=>by omega⟩
   | list k R b off cap g hm hc hM hf=>
    generalize hn:R.n=n at hm hc hM hf ⊢
    have hdiv:∀ q,q<n*k->q/k<n/\q % k<k/\q/k*k+q % k=q:=by
     intro q hq
     have hk0:0<k:=by
      rcases Nat.eq_zero_or_pos k with h0|h0
      .subst h0;simp at hq
      .exact h0
     exact⟨(Nat.div_lt_iff_lt_mul hk0).2 hq,Nat.mod_lt _ hk0,Nat.div_add_mod' q k⟩
    refine⟨(List.range (n*k)).map (fun q=>g (q/k) (q % k)),zeB ht.1 (by simp) (fun j u hu=>?_) (fun u hu=>?_),fun i j hi hj=>?_⟩
    .rw [zad]
     rw[List.getElem?_map]at hu
     by_cases hj:j<n*k
     .rw [List.getElem?_range hj]at hu
      cases hu
      obtain⟨h1,h2,h3⟩:=hdiv j hj
      have:=hs.mem _ _ _ (hM _ _ h1 h2)
      rw[Nat.add_assoc,h3]at this
      exact this
     .rw [List.getElem?_eq_none (by simp;omega)]at hu;cases hu
    .obtain ⟨q,hq,rfl⟩:=List.mem_map.1 hu
     have hq':q<n*k:=by simpa using hq
     obtain⟨h1,h2,h3⟩:=hdiv q hq'
     exact(hf _ _ h1 h2).oneCell
    .have hlt:i*k+j<n*k:=by
      have:(i+1)*k<=n*k:=Nat.mul_le_mul_right k hi
      rw[Nat.add_mul,Nat.one_mul]at this
      omega
     have hk0:0<k:=by omega
     refine⟨g i j,?_,hf i j hi hj⟩
     rw[List.getElem?_map,List.getElem?_range hlt]
     have e1:(i*k+j)/k=i:=by rw[Nat.mul_comm,Nat.mul_add_div hk0,Nat.div_eq_of_lt hj,Nat.add_zero]
     have e2:(i*k+j) % k=j:=by rw[Nat.mul_comm,Nat.mul_add_mod,Nat.mod_eq_of_lt hj]
     simp[e1,e2]
  | _=>cases h
 | arr id=>
  dsimp only[zth]at h
  cases ho:s.ob id with
  | none=>rw[ho]at h;cases h
  | some o=>
   rw[ho]at h
   cases o with
   | larr e mu k' R=>
    obtain⟨ht,he⟩:=zI h
    cases he
    rw[Bool.and_eq_true]at ht
    have hk:=Nat.eq_of_beq_eq_true ht.2
    subst hk
    obtain⟨ad,k',n',cap,hg,rfl⟩:=hy.arr_inv
    obtain⟨a2,cap2,vs,hg',hv,hA⟩:=hs.ob id _ ho
    rw[hg]at hg';cases hg'
    cases ad with
    | none=>
     have h0:=hA.none
     obtain⟨h1,rfl⟩:=h0
     rw[h1]
     exact⟨[],nilS (ht:=ht.1),fun i j hi _=>absurd hi (Nat.not_lt_zero _)⟩
    | some g=>
     refine⟨vs,zeB ht.1 hA.len_vs (fun j u hu=>?_) hA.one,hv⟩
     rw[zad,Nat.zero_add]
     exact hA.cell j u hu
   | _=>cases h
 | _=>cases h
end Go.Am
/-! Operations that write memory: append, store. -/
namespace Go.Am
open Go Go.RowKit
variable {P:Program}{γ γ':Nat->Option G}{M M':Mem}{C:Ctx}{s s':S}{a a':Act}{w w':World}
def zjX(ob:Nat->Option AObj)(e:TypeId):AV->Option (Option Nat×Option AObj)
 | .p .nil=>some (none,none)
 | .arr id=>match ob id with
  | some o=>yV (Nat.beq o.elem e) (some id,some o)
  | none=>none
 | _=>none
def zaL(P:Program)(ob:Nat->Option AObj)(t tx:TypeId):List AV->Option (AObj×Option Nat×Option Prop)
 | [x,y]=>match zdn P t with
  | some e=>match zaH P e,ziS P e,zf1 P e,zjX ob e x with
   | some (k'+1),some (b'+1),some z,some (old,bo)=>match Nat.beq z.length (k'+1)with
    | true=>match zSa P e&&Nat.beq (k'+1) 1 with
     | true=>match bo,zti P ob tx y with
      | none,some l=>some (.barr e false l,old,some (l.length*(b'+1)<=140737488355328))
      | some (.barr _ mu l0),some l=>some (.barr e mu (l0++l),old,some ((l0.length+l.length)*(b'+1)<=140737488355328))
      | _,_=>none
     | false=>match bo,zth P ob tx (k'+1) y with
      | none,some R=>some (.larr e false (k'+1) R,old,some (R.n*(b'+1)<=140737488355328))
      | some (.larr _ mu k0 R0),some R=>match Nat.beq k0 (k'+1)with
       | true=>some (.larr e mu (k'+1) (zGN R0 R),old,some ((R0.n+R.n)*(b'+1)<=140737488355328))
       | false=>none
      | _,_=>none
    | false=>none
   | _,_,_,_=>none
  | none=>none
 | _=>none
def zbh(ob:Nat->Option AObj):Option Nat->Nat->Option AObj
 | some id=>upd ob id none
 | none=>ob
def zae(s:S)(d:Nat)(old:Option Nat)(o:AObj):S:=
 { sl:=upd s.sl d (.arr d),ob:=upd (zbh s.ob old) d (some o),us:=upd s.us d true }
theorem zdf{ob:Nat->Option AObj}{old:Option Nat}{i:Nat}(h:zbh ob old i≠none):zbh ob old i=ob i/\some i≠old:=by
 cases old with
 | none=>exact⟨rfl,by simp⟩
 | some id=>
  unfold zbh at *
  by_cases e:i=id
  .subst e;dsimp only at h;rw[zw]at h;exact absurd rfl h
  .dsimp only at *;exact⟨zC _ _ e,by simp[e]⟩
def zd1(M:Mem)(mu:Bool)(ad:Option Nat)(vs:List Value):Mem:=
 match ad with
 | some g=>zb7 M mu g vs
 | none=>M
theorem StG.appendRow(h:StG C γ M s a w){d:Nat}(hd:yL C.nt (some d)=true)(hu:s.us d=false){old:Option Nat}{o:AObj}
 {k n m cap cap':Nat} {vs news:List Value} {ad ad':Option Nat}
 (hold:match old with|some id=>∃ oo,s.ob id=some oo/\γ id=some (.arr ad k n cap)/\oo.mu=o.mu|none=>ad=none)
 (hA:zb1 M w o.elem o.mu k n vs ad cap)
 (hown:w'.ownsRow 0 o.elem k (yX ad' (n+m) cap') (n+m) (vs++news)) (hg:zSV w w' ad ad')
 (h1:∀ u ∈ news,u.oneCell'=true) (hm:n+m<=maxLen) (hr:zer M o k (n+m) (vs++news)):
 ∃ γ' M',StG C γ' M' (zae s d old o) (a.put (some d) (yX ad' (n+m) cap')) w':=by
 have hfresh:=h.mem.fresh (Nat.le_refl w.heap.size)
 have hmemle:∀ g,ad'=some g->∀ q v,M g q=some v->(vs++news)[q]?=some v:=by
  intro g hg' q v hv
  rcases hg.at_ with he|⟨g2,he,hge,_,_⟩
  .rw [he]at hg'
   have:=hA.mem g hg'
   cases hmu:o.mu with
   | true=>rw[hmu]at this;simp only[if_true]at this;rw[this q]at hv;cases hv
   | false=>
    rw[hmu]at this
    simp only[Bool.false_eq_true,if_false]at this
    rw[this q]at hv
    rw[List.getElem?_append_left]
    .exact hv
    .rcases Nat.lt_or_ge q vs.length with hl|hl
     .exact hl
     .rw [List.getElem?_eq_none hl]at hv;cases hv
  .rw [he]at hg';cases hg'
   rw[h.mem.fresh hge]at hv;cases hv
 let M':Mem:=zd1 M o.mu ad' (vs++news)
 have hM:MLe M M':=by
  cases had:ad' with
  | none=>simp only[M',had,zd1];exact MLe.refl M
  | some g=>simp only[M',had,zd1];exact zsO (hmemle g had)
 have hMne:∀ b,ad'≠some b->M' b=M b:=by
  intro b hb
  cases had:ad' with
  | none=>simp only[M',had,zd1]
  | some g=>simp only[M',had,zd1];exact zlN (fun e=>hb (by rw[had,e]))
 let γ':=upd γ d (some (.arr ad' k (n+m) cap'))
 have hγ:GLe γ γ':=by
  intro i g' hi
  by_cases e:i=d
  .subst e;rw[h.us i hu]at hi;cases hi
  .show upd γ d _ i=_;rw[zC _ _ e];exact hi
 have hdo:s.ob d=none:=by
  cases hq:s.ob d with
  | none=>rfl
  | some o'=>obtain⟨g,hg⟩:=(h.ob d o' hq).ghost;rw[h.us d hu]at hg;cases hg
 have hother:∀ i g b,zbh s.ob old i≠none->γ i=some g->g.blk=some b->b<w.heap.size/\some b≠ad:=by
  intro i g b hi hgi hb
  obtain⟨e1,e2⟩:=zdf hi
  rw[e1]at hi
  have hlt:=(h.lo i g b hi hgi hb).2
  refine⟨hlt,fun e=>?_⟩
  cases old with
  | none=>simp only at hold;rw[hold]at e;cases e
  | some id=>
   obtain⟨oo,ho,hgo,_⟩:=hold
   have:=h.sep i id g _ b hi (by rw[ho];simp) hgi hgo hb (by rw[<-e];rfl)
   exact e2 (by rw[this])
 have hadlt:∀ g,ad=some g->(C.w0.heap.size<=g\/C.own g)/\g<w.heap.size:=by
  intro g hg'
  cases old with
  | none=>simp only at hold;rw[hold]at hg';cases hg'
  | some id=>
   obtain⟨oo,ho,hgo,_⟩:=hold
   exact h.lo id _ g (by rw[ho];simp) hgo hg'
 have hcell:∀ g,ad'=some g->∀ q u,(vs++news)[q]?=some u->w'.cell? ⟨g,q,none⟩=some u:=by
  intro g hg' q u hq
  subst hg'
  have:=hown.cells (g:=g) rfl q u hq
  rw[zad,Nat.zero_add]at this;exact this
 refine⟨γ',M',?_⟩
 refine h.master (s':=zae s d old o) hγ hM
  (zg5 (dst:=some d) (by rw[h.nt];exact hd) (fun t=>(h.sl t).mono hγ hM) (.arr d _ _ _ _ (zw _ _ _))) (by rw[zeE];exact h.nt) (by rw[zb6];exact h.df) d
  ?_ (fun i hi=>zC _ _ hi) ?_ ?_ ?_ ?_ ?_ hg.size ?_ ?_ ?_
 .intro i hi
  show upd (zbh s.ob old) d _ i=none\/upd (zbh s.ob old) d _ i=s.ob i
  rw[zC _ _ hi]
  rcases Classical.em (zbh s.ob old i=none)with e|e
  .exact .inl e
  .exact .inr (zdf e).1
 .intro i hi
  have hi':upd s.us d true i=false:=hi
  by_cases e:i=d
  .subst e;rw[zw]at hi';cases hi'
  .rw [zC _ _ e]at hi';exact⟨hi',e⟩
 .intro o' ho'
  have ho':upd (zbh s.ob old) d (some o) d=some o':=ho'
  rw[zw]at ho';cases ho'
  refine OM.row (zw _ _ _) (hr.mono hM) ⟨hown,?_,hm,?_⟩
  .intro v hv
   rw[List.mem_append]at hv
   exact hv.elim (hA.one v) (h1 v)
  .intro g hg'
   simp only[M',hg',zd1]
   cases hmu:o.mu with
   | true=>
    simp only[if_true,zb7]
    intro q
    cases hq:M g q with
    | none=>rfl
    | some v=>
     rcases hg.at_ with he|⟨g2,he,hge,_,_⟩
     .rw [he]at hg'
      have:=hA.mem g hg'
      rw[hmu]at this;simp only[if_true]at this
      rw[this q]at hq;cases hq
     .rw [he]at hg';cases hg'
      rw[h.mem.fresh hge]at hq;cases hq
   | false=>
    simp only[Bool.false_eq_true,if_false,zb7]
    intro q;rw[zw]
 .intro i g b hi hob hgi hb
  have hob:upd (zbh s.ob old) d (some o) i≠none:=hob
  rw[zC _ _ hi]at hob
  obtain⟨h2,h3⟩:=hother i g b hob hgi hb
  refine⟨hg.other b h2 h3,hMne b fun e=>?_⟩
  rcases hg.at_ with he|⟨g2,he,hge,_,_⟩
  .rw [he]at e;exact h3 e.symm
  .rw [he]at e;cases e;omega
 .intro i g1 g2 b hi hob _ hg1 hg2 hb1 hb2
  have hob:upd (zbh s.ob old) d (some o) i≠none:=hob
  rw[zC _ _ hi]at hob
  obtain⟨h2,h3⟩:=hother i g1 b hob hg1 hb1
  have hg2:upd γ d (some (.arr ad' k (n+m) cap')) d=some g2:=hg2
  rw[zw]at hg2;cases hg2
  have hb2:ad'=some b:=hb2
  rcases hg.at_ with he|⟨g3,he,hge,_,_⟩
  .rw [he]at hb2;exact h3 hb2.symm
  .rw [he]at hb2;cases hb2;omega
 .intro g b _ hg' hb
  have hg':upd γ d (some (.arr ad' k (n+m) cap')) d=some g:=hg'
  rw[zw]at hg';cases hg'
  have hb:ad'=some b:=hb
  rcases hg.at_ with he|⟨g3,he,hge,hlt,_⟩
  .rw [he]at hb
   have:=hadlt b hb
   exact⟨this.1,Nat.lt_of_lt_of_le this.2 hg.size⟩
  .rw [he]at hb;cases hb
   exact⟨.inl (Nat.le_trans h.fr.size hge),hlt⟩
 .refine ⟨?_,h.mem.good.mono hM⟩
  intro b q v hv
  by_cases e:ad'=some b
  .have hv':=hv
   cases hmu:o.mu with
   | true=>
    simp only[M',e,hmu,zb7,zd1]at hv'
    exact hcell b e q v (hmemle b e q v hv')
   | false=>
    simp only[M',e,hmu,zb7,zd1]at hv'
    rw[zw]at hv'
    exact hcell b e q v hv'
  .rw [hMne b e]at hv
   have hc:=h.mem b q v hv
   have hb:b<w.heap.size:=World.block_lt_of_cell? w ⟨b,q,none⟩ hc
   by_cases e2:some b=ad
   . -- the old row's block,left behind
    rcases hg.at_ with he|⟨g3,he,hge,hlt,hall⟩
    .exact absurd (he.trans e2.symm) e
    .rw [World.cell?_of_block (w:=w) (hall b hb)];exact hc
   .rw [World.cell?_of_block (w:=w) (hg.other b hb e2)];exact hc
 .intro b hb hno
  refine hMne b fun e=>?_
  rcases hg.at_ with he|⟨g3,he,hge,_,_⟩
  .rw [he]at e
   have:=(hadlt b e).1
   rcases this with h2|h2
   .omega
   .exact hno h2
  .rw [he]at e;cases e
   have:=h.fr.size
   omega
 .have hf:=h.fr
  refine⟨hg.os.trans hf.os,hg.tape.trans hf.tape,hg.output.trans hf.output,Nat.le_trans hf.size hg.size,fun b hb hno=>?_,hf.tab⟩
  have hlt:b<w.heap.size:=Nat.lt_of_lt_of_le hb hf.size
  rw[hg.other b hlt ?_]
  .exact hf.block b hb hno
  .intro e
   have:=(hadlt b e.symm).1
   rcases this with h2|h2
   .omega
   .exact hno h2
end Go.Am
