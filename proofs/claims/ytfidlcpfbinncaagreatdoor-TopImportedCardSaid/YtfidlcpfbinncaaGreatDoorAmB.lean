/-
  An abstract machine over texts and its soundness; no condition of its own.
-/
import Derived.Lib.ConvBytes
import Derived.Test.YtfidlcpfbinncaaGreatDoorAmA
set_option linter.unusedVariables false
noncomputable section
/-! Operations that make memory. -/
namespace Go.Am
open Go Go.RowKit
variable {P:Program}{γ γ':Nat->Option G}{M M':Mem}{C:Ctx}{s s':S}{a a':Act}{w w':World}
theorem MOk.fresh(h:MOk M w){b:Nat}(hb:w.heap.size<=b):∀ o,M b o=none:=by
 intro o
 cases hm:M b o with
 | none=>rfl
 | some v=>
  have:=World.block_lt_of_cell? w ⟨b,o,none⟩ (h b o v hm)
  have:b<w.heap.size:=this
  omega
theorem MOk.alloc(h:MOk M w)(o:Obj):MOk M (w.alloc o):=by
 refine⟨?_,h.good⟩
 intro b i v hv
 have hc:=h b i v hv
 have hb:b<w.heap.size:=World.block_lt_of_cell? w ⟨b,i,none⟩ hc
 rw[World.cell?_of_block (w:=w) (Below.heap_alloc w o b hb)];exact hc
theorem StG.cells(h:StG C γ M s a w){d:Nat}(hd:yu C.nt (some d)=true)(hu:s.us d=false){cs:List AV}{vs:Array Value}(e:TypeId)
 (hr:zrC γ M cs vs) (h1:∀ j,j<cs.length->(vs.getD j undef).oneCell'=true):
 StG C (upd γ d (some (.cell w.heap.size))) M { sl:=upd s.sl d (.ref d 0),ob:=upd s.ob d (some (.cells cs)),us:=upd s.us d true }
  (a.put (some d) (.pointer (some ⟨w.heap.size,0,none⟩))) (w.alloc (.cells vs e)):=by
 have hγ:GLe γ (upd γ d (some (.cell w.heap.size))):=by
  intro i g' hi
  by_cases e:i=d
  .subst e;rw[h.us i hu]at hi;cases hi
  .rw [zh _ _ e];exact hi
 refine h.birth hd hu (MLe.refl M) (by simp) (fun b hb=>⟨Below.heap_alloc w _ b hb,rfl⟩) (h.mem.alloc _) rfl rfl rfl (g:=.cell w.heap.size) ?_ ?_ (.ref d 0 _ (zc _ _ _))
 .intro b hb;cases hb;simp
 .exact ⟨w.heap.size,vs,e,zc _ _ _,heap_alloc_new w _,hr.1,fun j hj=>⟨(hr.2 j hj).mono hγ (MLe.refl M),h1 j hj⟩,h.mem.fresh (Nat.le_refl _)⟩
theorem StG.bldr(h:StG C γ M s a w){d:Nat}(hd:yu C.nt (some d)=true)(hu:s.us d=false)(T:TypeId):
 StG C (upd γ d (some (.cell w.heap.size))) M { sl:=upd s.sl d (.ref d 0),ob:=upd s.ob d (some (.bldr T (.p .nil))),us:=upd s.us d true }
  (a.put (some d) (.pointer (some ⟨w.heap.size,0,none⟩))) (w.alloc (.cells #[.pointer none,.slice none 0 0] T)):=by
 refine h.birth hd hu (MLe.refl M) (by simp) (fun b hb=>⟨Below.heap_alloc w _ b hb,rfl⟩) (h.mem.alloc _) rfl rfl rfl (g:=.cell w.heap.size) ?_ ?_ (.ref d 0 _ (zc _ _ _))
 .intro b hb;cases hb;simp
 .exact ⟨w.heap.size,_,_,zc _ _ _,heap_alloc_new w _,.inl rfl,.p _ _ .nil,rfl,h.mem.fresh (Nat.le_refl _)⟩
theorem StG.mpb(h:StG C γ M s a w){d:Nat}(hd:yu C.nt (some d)=true)(hu:s.us d=false)(e:Ec):
 StG C (upd γ d (some (.cell w.heap.size))) M { sl:=upd s.sl d (.mref d),ob:=upd s.ob d (some (.mp e [])),us:=upd s.us d true }
  (a.put (some d) (.map (some w.heap.size))) (w.alloc (.map #[] 0)):=by
 refine h.birth hd hu (MLe.refl M) (by simp) (fun b hb=>⟨Below.heap_alloc w _ b hb,rfl⟩) (h.mem.alloc _) rfl rfl rfl (g:=.cell w.heap.size) ?_ ?_ (.mref d _ (zc _ _ _))
 .intro b hb;cases hb;simp
 .exact ⟨w.heap.size,_,_,zc _ _ _,heap_alloc_new w _,trivial,h.mem.fresh (Nat.le_refl _)⟩
theorem StG.bcv(h:StG C γ M s a w){d:Nat}(hd:yu C.nt (some d)=true)(hu:s.us d=false){e:TypeId}{l:List UInt8}{cur:Array Value}(hsz:w'.heap.size=w.heap.size+1)
 (hold:∀ j,j<w.heap.size->w'.heap[j]?=w.heap[j]?) (hnew:w'.heap[w.heap.size]?=some (.cells cur e (cur.size,cur.size+1))) (ht:cur.toList.take l.length=l.map zq)
 (hc:l.length<=cur.size) (hm:l.length<=maxLen) (hos:w'.os=w.os) (htape:w'.tape=w.tape) (hout:w'.output=w.output):
 StG C (upd γ d (some (.arr (some w.heap.size) 1 l.length cur.size))) M { sl:=upd s.sl d (.arr d),ob:=upd s.ob d (some (.bcv e l)),us:=upd s.us d true }
  (a.put (some d) (yP (some w.heap.size) l.length cur.size)) w':=by
 have hfresh:=h.mem.fresh (Nat.le_refl w.heap.size)
 refine h.birth hd hu (MLe.refl M) (by omega) (fun b hb=>⟨hold b hb,rfl⟩) ?_ hos htape hout (g:=.arr (some w.heap.size) 1 l.length cur.size) ?_ ?_ (.arr d _ _ _ _ (zc _ _ _))
 .refine ⟨?_,h.mem.good⟩
  intro b i v hv
  have hb:b<w.heap.size:=by
   rcases Nat.lt_or_ge b w.heap.size with h'|h'
   .exact h'
   .rw [h.mem.fresh h' i]at hv;cases hv
  rw[World.cell?_of_block (w:=w) (hold b hb)];exact h.mem b i v hv
 .intro b hb;cases hb;omega
 .exact ⟨w.heap.size,cur,zc _ _ _,hnew,ht,hc,hm,hfresh⟩
def zdL(M:Mem)(o:AObj)(k n:Nat)(vs:List Value):Prop:=
 match o with
 | .barr _ _ l=>k=1/\n=l.length/\vs=l.map zq
 | .larr _ _ k' R=>k=k'/\n=R.n/\∀ i j,i<n->j<k->∃ v,vs[i*k+j]?=some v/\zF M (R.f i j) v
 | _=>False
def AObj.mu:AObj->Bool
 | .barr _ mu _=>mu
 | .larr _ mu _ _=>mu
 | _=>true
def AObj.elem:AObj->TypeId
 | .barr e _ _=>e
 | .larr e _ _ _=>e
 | _=>0
theorem OM.row{id:Nat}{o:AObj}{a:Option Nat}{k n cap:Nat}{vs:List Value}(hg:γ id=some (.arr a k n cap))(hr:zdL M o k n vs)
 (hA:zcq M w o.elem o.mu k n vs a cap):OM γ M w id o:=by
 cases o with
 | cells cs=>exact hr.elim
 | bcv _ _=>exact hr.elim
 | bldr _ _=>exact hr.elim
 | raw _=>exact hr.elim
 | mp _ _=>exact hr.elim
 | barr e mu l=>
  obtain⟨rfl,rfl,rfl⟩:=hr
  exact⟨a,cap,hg,hA⟩
 | larr e mu k' R=>
  obtain⟨rfl,rfl,hf⟩:=hr
  exact⟨a,cap,vs,hg,hf,hA⟩
theorem zdL.mono{o:AObj}{k n:Nat}{vs:List Value}(h:zdL M o k n vs)(hM:MLe M M'):zdL M' o k n vs:=by
 cases o with
 | cells cs=>exact h.elim
 | bcv _ _=>exact h.elim
 | bldr _ _=>exact h.elim
 | raw _=>exact h.elim
 | mp _ _=>exact h.elim
 | barr e mu l=>exact h
 | larr e mu k' R=>
  obtain⟨h1,h2,h3⟩:=h
  exact⟨h1,h2,fun i j hi hj=>let ⟨v,hv,hp⟩:=h3 i j hi hj;⟨v,hv,hp.mono hM⟩⟩
def zbZ(M:Mem)(mu:Bool)(g:Nat)(vs:List Value):Mem:=
 match mu with
 | true=>M
 | false=>upd M g (fun o=>vs[o]?)
theorem znb{mu:Bool}{g:Nat}{vs:List Value}(h:∀ o v,M g o=some v->vs[o]?=some v):MLe M (zbZ M mu g vs):=by
 intro b o v hv
 cases mu with
 | true=>exact hv
 | false=>
  simp only[zbZ]
  by_cases e:b=g
  .subst e;rw[zc];exact h o v hv
  .rw [zh _ _ e];exact hv
theorem ziy{mu:Bool}{g b:Nat}{vs:List Value}(h:b≠g):zbZ M mu g vs b=M b:=by
 cases mu with
 | true=>rfl
 | false=>exact zh _ _ h
theorem StG.row(h:StG C γ M s a w){d:Nat}(hd:yu C.nt (some d)=true)(hu:s.us d=false){o:AObj}{k n cap:Nat}{vs:List Value}
 {cur:Array Value} (hw:w'.heap=w.heap.push (.cells cur o.elem)) (hos:w'.os=w.os) (htape:w'.tape=w.tape) (hout:w'.output=w.output)
 (hlen:vs.length=n*k) (hn:n<=cap) (hcm:cap<=maxLen) (hcur:cur.size=cap*k) (htake:cur.toList.take (n*k)=vs)
 (h1:∀ v ∈ vs,v.oneCell'=true) (hr:zdL M o k n vs):
 StG C (upd γ d (some (.arr (some w.heap.size) k n cap))) (zbZ M o.mu w.heap.size vs) { sl:=upd s.sl d (.arr d),ob:=upd s.ob d (some o),us:=upd s.us d true }
  (a.put (some d) (yP (some w.heap.size) n cap)) w':=by
 have hfresh:=h.mem.fresh (Nat.le_refl w.heap.size)
 have hM:MLe M (zbZ M o.mu w.heap.size vs):=znb fun o v hv=>by rw[hfresh]at hv;cases hv
 have hsz:w'.heap.size=w.heap.size+1:=by rw[hw];simp
 have hnew:w'.heap[w.heap.size]?=some (.cells cur o.elem (0,0)):=by rw[hw];simp
 have hold:∀ b,b<w.heap.size->w'.heap[b]?=w.heap[b]?:=fun b hb=>by rw[hw,Array.getElem?_push,if_neg (by omega)]
 have hvs:∀ (j:Nat) (u:Value),vs[j]?=some u->cur[j]?=some u:=by
  intro j u hu
  rw[<-htake,List.getElem?_take]at hu
  split at hu
  .simpa using hu
  .cases hu
 refine h.birth hd hu hM (by omega) (fun b hb=>⟨hold b hb,ziy (by omega)⟩) ?_ hos htape hout (g:=.arr (some w.heap.size) k n cap) ?_ ?_ (.arr d _ _ _ _ (zc _ _ _))
 .refine ⟨?_,h.mem.good.mono hM⟩
  intro b i v hv
  by_cases e:b=w.heap.size
  .subst e
   rw[cell_of_row w' _ i cur _ (0,0) hnew]
   cases hmu:o.mu with
   | true=>rw[hmu]at hv;simp only[zbZ]at hv;rw[hfresh]at hv;cases hv
   | false=>rw[hmu]at hv;simp only[zbZ]at hv;rw[zc]at hv;exact hvs i v hv
  .rw [ziy e]at hv
   have hc:=h.mem b i v hv
   have hb:b<w.heap.size:=World.block_lt_of_cell? w ⟨b,i,none⟩ hc
   rw[World.cell?_of_block (w:=w) (hold b hb)];exact hc
 .intro b hb;cases hb;omega
 .refine OM.row (zc _ _ _) (hr.mono hM) ⟨⟨hlen,.inr ⟨_,_,cur,rfl,Nat.zero_le _,hnew,hn,hcm,hcur,htake⟩⟩,h1,Nat.le_trans hn hcm,?_⟩
  intro g hg
  cases hg
  cases hmu:o.mu with
  | true=>simp only[if_true];exact hfresh
  | false=>
   simp only[Bool.false_eq_true,if_false]
   intro i
   simp only[zbZ]
   rw[zc]
def zxk:AV->Option PV
 | .p x=>some x
 | _=>none
def zrO:AV->Option UInt8
 | .p (.int .u8 n)=>some (UInt8.ofNat n.toNat)
 | _=>none
def zhr(P:Program)(e:TypeId):Bool:=match P.underlying e with|some (.int .u8)=>true|_=>false
def zx{α β:Type}(f:α->Option β):List α->Option (List β)
 | []=>some []
 | x::r=>match f x,zx f r with
  | some y,some ys=>some (y::ys)
  | _,_=>none
theorem zaX{α β:Type}{f:α->Option β}:∀ {l:List α} {r:List β},zx f l=some r->r.length=l.length/\∀ (i:Nat) (x:α),l[i]?=some x->∃ y,r[i]?=some y/\f x=some y:=by
 intro l
 induction l with
 | nil=>intro r h;cases h;exact⟨rfl,fun i x hx=>by cases hx⟩
 | cons x l ih=>
  intro r h
  simp only[zx]at h
  cases hf:f x with
  | none=>rw[hf]at h;cases h
  | some y=>
   cases hr:zx f l with
   | none=>rw[hf,hr]at h;cases h
   | some ys=>
    rw[hf,hr]at h;cases h
    obtain⟨h1,h2⟩:=ih hr
    refine⟨by simp[h1],fun i z hz=>?_⟩
    cases i with
    | zero=>simp at hz;subst hz;exact⟨y,by simp,hf⟩
    | succ i=>simpa using h2 i z (by simpa using hz)
def zij(P:Program)(e:TypeId)(mu:Bool)(k n:Nat)(cs:List AV):Option AObj:=
 match zhr P e&&Nat.beq k 1 with
 | true=>(zx zrO cs).map fun l=>.barr e mu l
 | false=>(zx zxk cs).map fun l=>.larr e mu k (mkR (zq3 P 9 e) k n l)
theorem zkq{n:Int}(h:IntKind.u8.has n):Value.int .u8 n=zq (UInt8.ofNat n.toNat):=by
 simp[IntKind.has,IntKind.min,IntKind.max,IntKind.signed,IntKind.bits]at h
 unfold zq
 congr 1
 simp
 omega
theorem zp2{e:TypeId}{mu:Bool}{k n:Nat}{cs:List AV}{o:AObj}(h:zij P e mu k n cs=some o)(hl:cs.length=n*k){vs:Array Value}(hr:zrC γ M cs vs):
 o.elem=e/\o.mu=mu/\zdL M o k n vs.toList:=by
 unfold zij at h
 split at h
 .rename_i hk
  rw[Bool.and_eq_true]at hk
  have hk1:=Nat.eq_of_beq_eq_true hk.2
  subst hk1
  obtain⟨l,hl',he⟩:=map_some h
  cases he
  obtain⟨h1,h2⟩:=zaX hl'
  refine⟨rfl,rfl,rfl,by omega,?_⟩
  apply List.ext_getElem?
  intro i
  rw[List.getElem?_map]
  by_cases hi:i<cs.length
  .obtain ⟨y,hy,hf⟩:=h2 i _ (List.getElem?_eq_getElem hi)
   have hrel:=hr.2 i hi
   have hvi:i<vs.size:=by rw[hr.1];exact hi
   rw[List.getD_eq_getElem?_getD,List.getElem?_eq_getElem hi,Array.getD_eq_getD_getElem?,Array.getElem?_eq_getElem hvi]at hrel
   simp only[Option.getD_some]at hrel
   unfold zrO at hf
   split at hf
   .rename_i n' hx
    cases hf
    rw[hx]at hrel
    obtain⟨e1,e2⟩:=hrel.int_inv
    rw[hy,Array.getElem?_toList,Array.getElem?_eq_getElem hvi,e1,zkq e2]
    rfl
   .cases hf
  .have e0:vs.toList[i]?=none:=by rw[List.getElem?_eq_none];rw[Array.length_toList,hr.1];omega
   have e1:l[i]?=none:=by rw[List.getElem?_eq_none];omega
   rw[e0,e1];rfl
 .obtain ⟨l,hl',he⟩:=map_some h
  cases he
  obtain⟨h1,h2⟩:=zaX hl'
  have hmk:=zyt (M:=M) (zq3 P 9 e) k n l
  refine⟨rfl,rfl,rfl,hmk.1.symm,?_⟩
  intro i j hi hj
  have hlt:i*k+j<cs.length:=by
   rw[hl]
   have:(i+1)*k<=n*k:=Nat.mul_le_mul_right k hi
   rw[Nat.add_mul,Nat.one_mul]at this
   omega
  obtain⟨y,hy,hf⟩:=h2 _ _ (List.getElem?_eq_getElem hlt)
  have hrel:=hr.2 _ hlt
  have hvi:i*k+j<vs.size:=by rw[hr.1];exact hlt
  rw[List.getD_eq_getElem?_getD,List.getElem?_eq_getElem hlt,Array.getD_eq_getD_getElem?,Array.getElem?_eq_getElem hvi]at hrel
  simp only[Option.getD_some]at hrel
  refine⟨_,by rw[Array.getElem?_toList,Array.getElem?_eq_getElem hvi],?_⟩
  unfold zxk at hf
  split at hf
  .rename_i q hx
   cases hf
   rw[hx]at hrel
   refine hmk.2 i j hi hj _ ?_
   rw[List.getD_eq_getElem?_getD,hy]
   exact hrel.p_inv
  .cases hf
end Go.Am
namespace Go.Am
open Go Go.RowKit
variable {P:Program}{γ γ':Nat->Option G}{M M':Mem}{C:Ctx}{s s':S}{a a':Act}{w w':World}
def zgS(P:Program)(t:TypeId):Option Nat:=(P.info? t).map (·.bytes)
def zhG(P:Program)(t n:Nat)(ix:List Nat)(xs:List AV):Option (AObj×Option Prop):=
 match zcS P t with
 | some e=>match zax P e,zaL P e with
  | some (k+1),some z=>match Nat.ble (n*(k+1)) 16777216 with
   | true=>match zl5 (fun i=>some (i*(k+1),k+1)) ((List.range (n*(k+1))).map fun i=>z.getD (i % z.length) .any) (ix.zip xs)with
    | some cs=>(zij P e false (k+1) n cs).map fun o=>(o,none)
    | none=>none
   | false=>none
  | _,_=>none
 | none=>none
def zlk:PV->Bool
 | .int .u8 0=>true
 | _=>false
def zjr(P:Program)(t:TypeId):List AV->Option (AObj×Option Prop)
 | [.p (.int _ l),.p (.int _ c)]=>match zcS P t with
  | some e=>match zax P e,zaL P e,zgS P e with
   | some 1,some [.p z],some by'=>match zhr P e with
    | true=>match zlk z with
     | true=>some (.barr e true (List.replicate l.toNat 0),some (0<=l/\l<=c/\(by':Int)*c<=281474976710656/\c<=9223372036854775807))
     | false=>none
    | false=>some (.larr e true 1 (zBs (zq3 P 9 e) l.toNat z),some (0<=l/\l<=c/\(by':Int)*c<=281474976710656/\c<=9223372036854775807))
   | _,_,_=>none
  | none=>none
 | _=>none
def zyS(P:Program)(e:TypeId):Bool:=match P.underlying e with|some (.int .u8)=>true|_=>false
def zuB(P:Program)(s:TypeId):Bool:=match P.underlying s with|some .string=>true|_=>false
def ziM(P:Program)(sT d:TypeId):List AV->Option (AObj×Option Prop)
 | [.p (.str l)]=>match zcS P d with
  | some e=>match zyS P e&&zuB P sT with
   | true=>some (.bcv e l,none)
   | false=>none
  | none=>none
 | _=>none
def zHj(P:Program)(t:TypeId):Bool:=
 match P.underlying t with
 | some (.struct fs)=>match fs.toList with
  | [f,g]=>(match P.underlying f.type with|some (.pointer t')=>Nat.beq t t'|_=>false)&&(match P.underlying g.type with|some (.slice e)=>zyS P e|_=>false)
  | _=>false
 | _=>false
def evB(P:Program)(op:Op)(xs:List AV):Option (AObj×Option Prop):=
 match op with
 | .alloc t=>match zHj P t with
  | true=>match zaL P t with
   | some [.p (.plain (.pointer none)),.p .nil]=>some (.bldr t (.p .nil),none)
   | _=>none
  | false=>(zaL P t).map fun cs=>(.cells cs,none)
 | .box _ _=>match xs with
  | [x]=>match x.cells? with
   | some cs=>match cs.all AV.one with
    | true=>some (.cells cs,none)
    | false=>none
   | none=>none
  | _=>none
 | .buildSlice t n ps=>zhG P t n (ps.toList.map (·.1)) xs
 | .makeSlice t _ _=>zjr P t xs
 | .makeMap t none=>(zsx P t).map fun q=>(.mp q.2 [],none)
 | _=>none
def AObj.handle(d:Nat):AObj->AV
 | .cells _=>.ref d 0
 | .bldr _ _=>.ref d 0
 | .mp _ _=>.mref d
 | _=>.arr d
def yq(s:S)(d:Nat)(o:AObj):S:={ sl:=upd s.sl d (o.handle d),ob:=upd s.ob d (some o),us:=upd s.us d true }
theorem zm6{cs:List AV}{vs:Array Value}(h:zrC γ M cs vs)(h1:cs.all AV.one=true):∀ j,j<cs.length->(vs.getD j undef).oneCell'=true:=by
 intro j hj
 have hr:=h.2 j hj
 refine hr.oneCell ?_
 rw[List.getD_eq_getElem?_getD,List.getElem?_eq_getElem hj]
 exact(List.all_eq_true.1 h1) _ (List.getElem_mem hj)
theorem zwX{z:Value}(h:∀ v ∈ z.cells.toList,v.oneCell'=true):∀ j,j<(z.cells.toList.map zgZ).length->(z.cells.getD j undef).oneCell'=true:=by
 intro j hj
 have hj':j<z.cells.size:=by simpa using hj
 rw[Array.getD_eq_getD_getElem?,Array.getElem?_eq_getElem hj']
 exact h _ (by simp)
theorem zvh{z:Value}(n:Nat)(γ:Nat->Option G)(M:Mem):
 zrC γ M ((List.range n).map fun i=>(z.cells.toList.map zgZ).getD (i % (z.cells.toList.map zgZ).length) .any) ((Array.range n).map (z.cells[· % z.cells.size]!)):=by
 refine⟨by simp,fun j hj=>?_⟩
 have hj':j<n:=by simpa using hj
 have e1:((List.range n).map fun i=>(z.cells.toList.map zgZ).getD (i % (z.cells.toList.map zgZ).length) .any).getD j .any=(z.cells.toList.map zgZ).getD (j % z.cells.size) .any:=by
  rw[List.getD_eq_getElem?_getD,List.getElem?_map,List.getElem?_range hj'];simp
 have e2:((Array.range n).map (z.cells[· % z.cells.size]!)).getD j undef=z.cells[j % z.cells.size]!:=by
  rw[Array.getD_eq_getD_getElem?];simp[hj']
 rw[e1,e2]
 by_cases hz:j % z.cells.size<z.cells.size
 .have:=(zbM γ M z.cells).2 (j % z.cells.size) (by simpa using hz)
  rw[getElem!_pos z.cells _ hz]
  rw[Array.getD_eq_getD_getElem?,Array.getElem?_eq_getElem hz]at this
  exact this
 .have e3:(z.cells.toList.map zgZ).getD (j % z.cells.size) .any=.any:=by
   rw[List.getD_eq_getElem?_getD,List.getElem?_eq_none (by simp;omega)];rfl
  rw[e3];exact .any _
theorem zkO{e:TypeId}{mu:Bool}{k n:Nat}{cs:List AV}{o:AObj}(h:zij P e mu k n cs=some o):∀ d,o.handle d=.arr d:=by
 unfold zij at h
 split at h
 .obtain ⟨l,_,rfl⟩:=map_some h;exact fun d=>rfl
 .obtain ⟨l,_,rfl⟩:=map_some h;exact fun d=>rfl
theorem zpn(place:Nat->Option (Nat×Nat)):∀ (xs:List (Nat×AV)) (cs r:List AV),zl5 place cs xs=some r->r.length=cs.length:=by
 intro xs
 induction xs with
 | nil=>intro cs r h;cases h;rfl
 | cons x xs ih=>
  intro cs r h
  obtain⟨i,x⟩:=x
  simp only[zl5]at h
  split at h
  .split at h
   .rename_i hb
    rw[Bool.and_eq_true]at hb
    rw[ih _ _ h,zcg (Nat.le_of_ble_eq_true hb.2)]
   .cases h
  .cases h
theorem zf2(hs:StG C γ M s a w)(o:Oper){d:Nat}(hdst:o.dst=some d)(hd:yu C.nt (some d)=true)(hu:s.us d=false)
 {xs:List AV} {ob:AObj} {ok:Option Prop} (h:evB P o.op xs=some (ob,ok)) (hok:okP ok)
 {ρ:Operand->Value} (hx:ARels γ M xs (o.op.operands.toList.map ρ)):
 ∃ v w' γ' M',(execOp ρ o).run P w=.ok (.value v) w'/\StG C γ' M' (yq s d ob) (a.put (some d) v) w':=by
 obtain⟨dst,op,type,pos,after,guard⟩:=o
 dsimp only at hx h hdst
 subst hdst
 cases op <;> simp only[evB,reduceCtorEq]at h <;> simp only[Op.operands,List.map_cons,List.map_nil]at hx
 case alloc t=>
  split at h
  .split at h
   .rename_i hz
    cases h
    obtain⟨i,z,hi,hzv,h1,he⟩:=ye hz
    obtain⟨v0,v1,hcz⟩:∃ v0 v1,z.cells=#[v0,v1]:=by
     have hl:=congrArg List.length he
     simp at hl
     match hq:z.cells,hl with
     | ⟨[v0,v1]⟩,_=>exact⟨v0,v1,rfl⟩
    have hrel:=zbM γ M z.cells
    rw[<-he]at hrel
    have r0:=hrel.2 0 (by simp)
    have r1:=hrel.2 1 (by simp)
    have hv0:v0=.pointer none:=by
     have:ARel γ M (.p (.plain (.pointer none))) v0:=by simpa[hcz]using r0
     cases this.p_inv;rfl
    have hv1:v1=.slice none 0 0:=by
     have:ARel γ M (.p .nil) v1:=by simpa[hcz]using r1
     cases this.p_inv;rfl
    subst hv0 hv1
    refine⟨_,_,_,_,?_,hs.bldr hd hu t⟩
    simp[execOp,Instr.alloc,zeroValue,typeInfo,hi,hzv,newVar,newRow,hcz]
   .cases h
  obtain⟨cs,hz,he⟩:=map_some h
  cases he
  obtain⟨i,z,hi,hzv,h1,rfl⟩:=ye hz
  refine⟨_,_,_,_,?_,hs.cells hd hu t (zbM γ M z.cells) (zwX h1)⟩
  simp[execOp,Instr.alloc,zeroValue,typeInfo,hi,hzv,newVar,newRow]
 case makeMap t r=>
  split at h
  all_goals try (cases h;done)
  all_goals first
   | (rename_i heq;cases heq)
   | skip
  obtain⟨q,hq,he⟩:=map_some h
  cases he
  exact⟨_,_,_,_,by simp[execOp,Instr.makeMap],hs.mpb hd hu q.2⟩
 case box t x=>
  cases hx with
  | cons hx ht=>
   cases ht with
   | nil=>
    rename_i u
    dsimp only at h
    cases hc:u.cells? with
    | none=>rw[hc]at h;cases h
    | some cs=>
     rw[hc]at h
     dsimp only at h
     cases hall:cs.all AV.one with
     | false=>rw[hall]at h;cases h
     | true=>
      rw[hall]at h
      cases h
      have hr:=zdb hc hx
      refine⟨_,_,_,_,?_,hs.cells hd hu t hr (zm6 hr hall)⟩
      simp[execOp,Instr.box,newVar,newRow]
 case buildSlice t n ps=>
  unfold zhG at h
  split at h
  .rename_i e0 he
   split at h
   .rename_i k z hk hz
    split at h
    .rename_i hb
     have hb:=Nat.le_of_ble_eq_true hb
     split at h
     .rename_i cs hf
      obtain⟨o',hro,he'⟩:=map_some h
      cases he'
      obtain⟨i,zv,hi,hzv,h1,rfl⟩:=ye hz
      have hx':ARels γ M xs (ps.toList.map fun p=>ρ p.2):=by simpa[Function.comp_def]using hx
      obtain⟨cells',hc1,hc2⟩:=zc8 (γ:=γ) (M:=M) (fun i=>some (i*(k+1),k+1)) _ _ _ _ _ hf (zdj.of hx' rfl) (zvh (z:=zv) _ γ M)
      have hlen:cs.length=n*(k+1):=by rw[zpn _ _ _ _ hf];simp
      obtain⟨q1,q2,q3⟩:=zp2 (γ:=γ) (M:=M) hro hlen hc2
      have hsz:cells'.size=n*(k+1):=by rw[hc2.1,hlen]
      have hnm:n<=maxLen:=by
       have:n*1<=n*(k+1):=Nat.mul_le_mul_left n (by omega)
       unfold maxLen;omega
      have hone:∀ v ∈ cells'.toList,v.oneCell'=true:=by
       intro v hv
       obtain⟨j,hj,rfl⟩:=List.getElem_of_mem hv
       have hj':j<cells'.size:=by simpa using hj
       have hr:=hc2.2 j (by rw[<-hc2.1];exact hj')
       rw[Array.getD_eq_getD_getElem?,Array.getElem?_eq_getElem hj']at hr
       have:(cs.getD j .any).one=true:=by
        unfold zij at hro
        have hjc:j<cs.length:=by rw[<-hc2.1];exact hj'
        split at hro
        .obtain ⟨l,hl,_⟩:=map_some hro
         obtain⟨y,_,hf⟩:=(zaX hl).2 j _ (List.getElem?_eq_getElem hjc)
         rw[List.getD_eq_getElem?_getD,List.getElem?_eq_getElem hjc]
         unfold zrO at hf
         split at hf
         .rename_i hq;simp only[Option.getD_some];rw[hq];rfl
         .cases hf
        .obtain ⟨l,hl,_⟩:=map_some hro
         obtain⟨y,_,hf⟩:=(zaX hl).2 j _ (List.getElem?_eq_getElem hjc)
         rw[List.getD_eq_getElem?_getD,List.getElem?_eq_getElem hjc]
         unfold zxk at hf
         split at hf
         .rename_i hq;simp only[Option.getD_some];rw[hq];rfl
         .cases hf
       exact hr.oneCell this
      have hrow:=hs.row (w':=w.alloc (.cells cells' e0)) hd hu (o:=ob) (k:=k+1) (n:=n) (cap:=n) (vs:=cells'.toList) (cur:=cells')
       (by rw[q1];rfl) rfl rfl rfl (by simp[hsz]) (Nat.le_refl _) hnm hsz (by rw[List.take_of_length_le (by simp[hsz])]) hone q3
      have hh:ob.handle d=.arr d:=zkO hro d
      have e1:yq s d ob={ sl:=upd s.sl d (.arr d),ob:=upd s.ob d (some ob),us:=upd s.us d true }:=by unfold yq;rw[hh]
      refine⟨_,_,_,_,?_,by rw[e1];exact hrow⟩
      have hle:¬ (n*(k+1)>2^24):=by omega
      have hu':=zam he
      have e:(ps.map fun(x:Nat×Operand)=>(x.1,ρ x.2)).toList=ps.toList.map fun p=>(p.1,ρ p.2):=by simp
      by_cases h0:n*(k+1)=0
      .have hc':Instr.fill (fun i=>some (i*(k+1),k+1)) #[] (ps.map fun(x:Nat×Operand)=>(x.1,ρ x.2)).toList=some cells':=by
        rw[e]
        have:=hc1
        rw[h0]at this
        simpa[Array.range_zero']using this
       have hrun:(Instr.buildSlice t n (ps.map fun(x:Nat×Operand)=>(x.1,ρ x.2))).run P w=.ok (yP (some w.heap.size) n n) (w.alloc (.cells cells' e0)):=by
        simp only[Instr.buildSlice,Sem.run_bind,run_underlying hu',Result.andThen_ok,yf hk,h0,if_true,Array.range_zero',Array.map_empty,hc',newRow]
        rfl
       simp only[execOp,Sem.run_bind]
       rw[hrun]
       rfl
      .have hc':Instr.fill (fun i=>some (i*(k+1),k+1)) ((Array.range (n*(k+1))).map (zv.cells[· % zv.cells.size]!)) (ps.map fun(x:Nat×Operand)=>(x.1,ρ x.2)).toList=some cells':=by
        rw[e];exact hc1
       have hrun:(Instr.buildSlice t n (ps.map fun(x:Nat×Operand)=>(x.1,ρ x.2))).run P w=.ok (yP (some w.heap.size) n n) (w.alloc (.cells cells' e0)):=by
        simp only[Instr.buildSlice,Sem.run_bind,run_underlying hu',Result.andThen_ok,yf hk,hle,if_false,h0,zeroValue,typeInfo,run_program,hi,Sem.run_pure,hzv,hc',newRow]
        rfl
       simp only[execOp,Sem.run_bind]
       rw[hrun]
       rfl
     .cases h
    .cases h
   .cases h
  .cases h
 case makeSlice t l c=>
  cases hx with
  | cons hx1 ht=>
   cases ht with
   | cons hx2 ht=>
    cases ht with
    | nil=>
     unfold zjr at h
     split at h
     .rename_i k1 l' k2 c' heq
      cases heq
      split at h
      .rename_i e he
       split at h
       .rename_i z by' hk hz hby
        have e1:=hx1.int_inv.1
        have e2:=hx2.int_inv.1
        obtain⟨i,zv,hi,hzv,h1,hzz⟩:=ye hz
        have hzsz:zv.cells.size=1:=by have:=congrArg List.length hzz;simpa using this.symm
        have hbi:i.bytes=by':=by unfold zgS at hby;rw[hi]at hby;injection hby
        have hsi:i.size=1:=by unfold zax at hk;rw[hi]at hk;injection hk
        have key:∀ o':AObj,o'.elem=e->(∀ d,o'.handle d=.arr d)->(∀ u,zv.cells=#[u]->zF M z u->zdL M o' 1 l'.toNat (List.replicate l'.toNat u))->
         (0<=l'/\l'<=c'/\(by':Int)*c'<=281474976710656/\c'<=9223372036854775807)->
         ∃ v w' γ' M',(execOp ρ ⟨some d,.makeSlice t l c,type,pos,after,guard⟩).run P w=.ok (.value v) w'/\StG C γ' M' (yq s d o') (a.put (some d) v) w':=by
         intro o' hel hha hrw hc
         obtain⟨u,hu'⟩:∃ u,zv.cells=#[u]:=by
          match hq:zv.cells,hzsz with
          | ⟨[u]⟩,_=>exact⟨u,rfl⟩
         have hzu:zF M z u:=by
          have:=(zbM (fun _=>none) M zv.cells).2 0 (by simp[hu'])
          rw[<-hzz]at this
          simp[hu']at this
          exact this.p_inv
         have hrun:=run_make (P:=P) w t e i zv (zam he) hi hzv k1 k2 l' c' hc.1 hc.2.1 (by rw[hbi];exact hc.2.2.1) hc.2.2.2
         have hmc:(madeCells zv.cells (c'.toNat*i.size)).toList=List.replicate c'.toNat u:=by
          rw[hsi,Nat.mul_one,hu',toList_madeCells_one]
         have hrow:=hs.row (w':=w.alloc (.cells (madeCells zv.cells (c'.toNat*i.size)) e)) hd hu (o:=o') (k:=1) (n:=l'.toNat) (cap:=c'.toNat) (vs:=List.replicate l'.toNat u) (cur:=madeCells zv.cells (c'.toNat*i.size))
          (by rw[hel];rfl) rfl rfl rfl (by simp) (by omega) (by unfold maxLen;omega) (by rw[size_madeCells,hsi]) (by
           rw[hmc,List.take_replicate];congr 1;omega) (by
           intro v hv;rw[List.mem_replicate]at hv;rw[hv.2];exact hzu.oneCell) (hrw u hu' hzu)
         have e3:yq s d o'={ sl:=upd s.sl d (.arr d),ob:=upd s.ob d (some o'),us:=upd s.us d true }:=by unfold yq;rw[hha]
         refine⟨_,_,_,_,?_,by rw[e3];exact hrow⟩
         simp only[execOp,e1,e2,Sem.run_bind,hrun,Result.andThen_ok]
         rfl
        split at h
        .split at h
         .rename_i hzb
          cases h
          refine key _ rfl (fun d=>rfl) (fun u hu' hzu=>⟨rfl,by simp,?_⟩) hok
          unfold zlk at hzb
          split at hzb
          .have:=hzu.int_inv.1
           rw[this,List.map_replicate];rfl
          .cases hzb
         .cases h
        .cases h
         have hrp:=zvD (M:=M) (zq3 P 9 e) l'.toNat z
         refine key _ rfl (fun d=>rfl) (fun u hu' hzu=>⟨rfl,hrp.1.symm,fun i j hi hj=>⟨u,?_,hrp.2 i j hi hj u hzu⟩⟩) hok
         have:j=0:=by omega
         subst this
         rw[List.getElem?_replicate];simp[hi]
       .cases h
      .cases h
     .cases h
theorem zmv(hs:StG C γ M s a w)(o:Oper){d:Nat}(hdst:o.dst=some d)(hd:yu C.nt (some d)=true)(hu:s.us d=false){sT d2:TypeId}{x:Operand}(hop:o.op=.convert sT d2 x)
 {xs:List AV} {ob:AObj} {ok:Option Prop} (h:ziM P sT d2 xs=some (ob,ok)) {ρ:Operand->Value} (hx:ARels γ M xs (o.op.operands.toList.map ρ)):
 ∃ v w' γ' M',(execOp ρ o).run P w=.ok (.value v) w'/\StG C γ' M' (yq s d ob) (a.put (some d) v) w':=by
 obtain⟨dst,op,type,pos,after,guard⟩:=o
 dsimp only at hx hdst hop
 subst hdst hop
 simp only[Op.operands,List.map_cons,List.map_nil]at hx
 unfold ziM at h
 split at h
 .rename_i l
  split at h
  .rename_i e he
   split at h
   .rename_i hb
    cases h
    cases hx with
    | cons hx ht=>
     cases ht with
     | nil=>
      rw[Bool.and_eq_true]at hb
      have hu8:P.underlying e=some (.int .u8):=by
       have:=hb.1;unfold zyS at this;split at this
       .assumption
       .cases this
      have hst:∃ u,P.underlying sT=some u:=by
       have:=hb.2;unfold zuB at this;split at this
       .exact ⟨_,by assumption⟩
       .cases this
      obtain⟨u,hst⟩:=hst
      obtain⟨hv,hm⟩:=hx.p_inv.str_inv
      have hrun:=Lib.run_convert_string_bytes (P:=P) w sT d2 e ⟨l.toArray⟩ hst (zam he) hu8
      have hge:=grownCap_ge w l.length 0 e
      have hcs:(Lib.bytesCells w e ⟨l.toArray⟩).size=grownCap w l.length 0 e:=by
       simp[Lib.bytesCells,ByteArray.size];omega
      refine⟨_,_,_,_,?_,hs.bcv hd hu (l:=l) (e:=e) (w':=Lib.bytesWorld w e ⟨l.toArray⟩) (cur:=Lib.bytesCells w e ⟨l.toArray⟩) (Lib.bytesWorld_size w e _) (fun j hj=>Lib.bytesWorld_at_old w e _ j hj) (Lib.bytesWorld_at_new w e _) ?_ (by rw[hcs];exact hge) hm rfl rfl rfl⟩
      .have e2:((⟨l.toArray⟩:ByteArray).size)=l.length:=by simp[ByteArray.size]
       simp only[execOp,hv,Sem.run_bind,hrun,Result.andThen_ok]
       rw[e2,<-hcs]
       rfl
      .simp [Lib.bytesCells,zq]
   .cases h
  .cases h
 .cases h
end Go.Am
/-! append. -/
namespace Go.Am
open Go Go.RowKit
variable {P:Program}{γ γ':Nat->Option G}{M M':Mem}{C:Ctx}{s s':S}{a a':Act}{w w':World}
theorem zgf(t tx ty e:TypeId)(i:TypeInfo)(ht:P.underlying t=some (.slice e))(hi:P.info? e=some i)(g sLen sCap:Nat)(cur:Array Value)
 (hg:w.heap[g]?=some (.cells cur e (0,0))) (x:Value) (n:Nat) (news:List Value) (hs:Src P i.size tx x n news w)
 (hroom:sLen+n<=sCap) (hfit:sLen*i.size+news.length<=cur.size):
 (Builtin.append_ #[t,tx] ty #[.slice (some ⟨g,0,none⟩) sLen sCap,x]).run P w=
  .ok (.slice (some ⟨g,0,none⟩) (sLen+n) sCap) (w.setRow g (cur.toList.take (sLen*i.size)++news++cur.toList.drop (sLen*i.size+news.length)).toArray):=by
 have hst:=run_storeCells_at P g (sLen*i.size) e news 0 cur w hg (by simpa using hfit) hs.one
 simp only[Nat.add_zero]at hst
 rcases hs.kind with⟨e',hk⟩|hk <;> simp[Builtin.append_,run_underlying ht,run_underlying hk,sizeOf,typeInfo,hi,hs.len,hroom,hs.cells,Addr.add_lit,hst]
structure zFr(w w':World)(a a':Option Nat):Prop where
 os:w'.os=w.os
 tape:w'.tape=w.tape
 output:w'.output=w.output
 size:w.heap.size<=w'.heap.size
 other:∀ b,b<w.heap.size->some b≠a->w'.heap[b]?=w.heap[b]?
 at_:a'=a\/∃ g,a'=some g/\w.heap.size<=g/\g<w'.heap.size/\∀ b,b<w.heap.size->w'.heap[b]?=w.heap[b]?
theorem zkL{e:TypeId}{mu:Bool}{k n:Nat}{vs:List Value}{ad:Option Nat}{cap:Nat}(hA:zcq M w e mu k n vs ad cap)
 (t tx ty:TypeId) (i:TypeInfo) (z:Value) (ht:P.underlying t=some (.slice e)) (hi:P.info? e=some i) (hz:i.zero=some z) (hk:i.size=k) (hzk:z.cells.size=k) (hk0:0<k)
 (x:Value) (m:Nat) (news:List Value) (hs:Src P k tx x m news w) (h63:n+m<=maxLen) (hby:(n+m)*i.bytes<=140737488355328):
 ∃ a' cap' w',(Builtin.append_ #[t,tx] ty #[yP ad n cap,x]).run P w=.ok (yP a' (n+m) cap') w'/\
  w'.ownsRow 0 e k (yP a' (n+m) cap') (n+m) (vs++news)/\zFr w w' ad a':=by
 subst hk
 have h63':((n+m:Nat):Int)<=9223372036854775807:=by unfold maxLen at h63;omega
 have hlenA:=hA.own.1
 have hln:news.length=m*i.size:=hs.newsLen
 have grow:∀ (base:Option Addr) (c:Nat),c<n+m->(Builtin.firstCells i.size n (.slice base n c)).run P w.drew=.ok vs.toArray w.drew->
  ∃ a' cap' w',(Builtin.append_ #[t,tx] ty #[.slice base n c,x]).run P w=.ok (yP a' (n+m) cap') w'/\
  w'.ownsRow 0 e i.size (yP a' (n+m) cap') (n+m) (vs++news)/\zFr w w' ad a':=by
  intro base c hc hold
  have hr:=run_append_grow_src (P:=P) w t tx ty e i z ht hi hz base n c vs hold x m news hs hc h63' (growslice_fits hc hby)
  have hge:=grownCap_ge w (n+m) c e
  have hcm:grownCap w (n+m) c e<=maxLen:=grownCap_le_maxLen w (n+m) c e h63
  refine⟨some w.heap.size,_,_,hr,⟨by rw[List.length_append,hlenA,hln,Nat.add_mul],.inr ⟨w.heap.size,_,_,rfl,Nat.zero_le _,heap_alloc_new w.drew _,hge,hcm,?_,?_⟩⟩,
   ⟨rfl,rfl,rfl,by simp,fun b hb _=>heap_alloc_old w.drew _ hb,.inr ⟨w.heap.size,rfl,Nat.le_refl _,by simp,fun b hb=>heap_alloc_old w.drew _ hb⟩⟩⟩
  .simp only[Array.size_append,List.size_toArray,size_zeroCells,hzk,List.length_append,hlenA,hln,<-Nat.add_mul]
   congr 1
   omega
  .simp only[Array.toList_append]
   have:(vs++news).length=(n+m)*i.size:=by rw[List.length_append,hlenA,hln,Nat.add_mul]
   rw[<-this]
   exact List.take_left
 rcases hA.own.2 with⟨hv,hn⟩|⟨g,cap',cur,hv,_,hg,hnc,hcm,hcs,htake⟩
 .subst hn
  have hx:vs=[]:=List.eq_nil_of_length_eq_zero (by simpa using hlenA)
  subst hx
  have had:ad=none/\cap=0:=by
   cases ad with
   | none=>simp[yP]at hv;exact⟨rfl,hv⟩
   | some g=>simp[yP]at hv
  obtain⟨rfl,rfl⟩:=had
  by_cases hm:m=0
  .subst hm
   have hnw:news=[]:=List.eq_nil_of_length_eq_zero (by simpa using hln)
   subst hnw
   refine⟨none,0,w,?_,⟨by simp,.inl ⟨rfl,rfl⟩⟩,⟨rfl,rfl,rfl,Nat.le_refl _,fun _ _ _=>rfl,.inl rfl⟩⟩
   rcases hs.kind with⟨e',hk⟩|hk <;> simp[Builtin.append_,yP,run_underlying ht,run_underlying hk,sizeOf,typeInfo,hi,hs.len,hs.cells]
  .exact grow none 0 (by omega) (by simp[Builtin.firstCells])
 .have had:ad=some g/\cap=cap':=by
   cases ad with
   | none=>simp[yP]at hv
   | some g'=>simp[yP]at hv;exact⟨by rw[hv.1],hv.2⟩
  obtain⟨rfl,rfl⟩:=had
  by_cases hroom:n+m<=cap
  .have hfit:n*i.size+news.length<=cur.size:=by rw[hln,hcs,<-Nat.add_mul];exact Nat.mul_le_mul_right _ hroom
   have hr:=zgf (P:=P) t tx ty e i ht hi g n cap cur hg x m news hs hroom hfit
   refine⟨some g,cap,_,hr,⟨by rw[List.length_append,hlenA,hln,Nat.add_mul],.inr ⟨g,cap,_,rfl,Nat.zero_le _,setRow_heap w g cur _ e _ hg,hroom,hcm,?_,?_⟩⟩,
    ⟨rfl,rfl,rfl,by simp,fun b _ hb=>setRow_other w g b _ (fun e=>hb (by rw[e])),.inl rfl⟩⟩
   .simp only[List.size_toArray,List.length_append,List.length_take,List.length_drop,Array.length_toList]
    omega
   .rw [htake]
    have:(vs++news).length=(n+m)*i.size:=by rw[List.length_append,hlenA,hln,Nat.add_mul]
    rw[<-this]
    exact List.take_left
  .refine grow (some ⟨g,0,none⟩) cap (by omega) ?_
   have hc:∀ j u,vs[j]?=some u->w.drew.cell? ((⟨g,0,none⟩:Addr).add j)=some u:=fun j u hu=>by
    have:=hA.cell j u hu
    rw[zC,Nat.zero_add]
    simpa using this
   exact run_firstCells_some (P:=P) w.drew i.size n ⟨g,0,none⟩ n cap vs hlenA hc
def znS(P:Program)(ob:Nat->Option AObj)(tx:TypeId):AV->Option (List UInt8)
 | .p .nil=>yI (yr P tx) []
 | .p (.bytes l)=>yI (yr P tx) l
 | .p (.str l)=>yI (zaP P tx) l
 | .arr id=>match ob id with
  | some (.barr _ _ l)=>yI (yr P tx) l
  | _=>none
 | _=>none
def znR(P:Program)(ob:Nat->Option AObj)(tx:TypeId)(k:Nat):AV->Option Rows
 | .p .nil=>yI (yr P tx) (.fn 0 fun _ _=>.bad)
 | .p (.list k' R)=>yI (yr P tx&&Nat.beq k k') R
 | .arr id=>match ob id with
  | some (.larr _ _ k' R)=>yI (yr P tx&&Nat.beq k k') R
  | _=>none
 | _=>none
theorem zab{k:Nat}{tx:TypeId}(ht:yr P tx=true){ad:Addr}{n cap:Nat}{news:List Value}(hl:news.length=n*k)
 (hc:∀ j u,news[j]?=some u->w.cell? (ad.add j)=some u) (h1:∀ u ∈ news,u.oneCell'=true):Src P k tx (.slice (some ad) n cap) n news w:=by
 obtain⟨e,he⟩:=yn ht
 exact Src.ofSlice w he ad n cap news hl hc h1
theorem zaE(l:List UInt8):∀ u ∈ l.map zq,u.oneCell'=true:=by
 intro u hu
 obtain⟨c,_,rfl⟩:=List.mem_map.1 hu
 rfl
theorem zjH(hs:StG C γ M s a w){tx:TypeId}{y:AV}{l:List UInt8}(h:znS P s.ob tx y=some l){v:Value}(hy:ARel γ M y v):
 Src P 1 tx v l.length (l.map zq) w:=by
 have nilS:∀ {ht:yr P tx=true},Src P 1 tx (.slice none 0 0) 0 [] w:=fun {ht}=>by
  obtain⟨e,he⟩:=yn ht
  exact Src.ofNil w he 0
 cases y with
 | p q=>
  cases q with
  | nil=>
   obtain⟨ht,rfl⟩:=zp h
   cases hy.p_inv
   exact nilS (ht:=ht)
  | bytes l'=>
   obtain⟨ht,rfl⟩:=zp h
   rcases zf8 hy.p_inv with⟨rfl,rfl⟩|⟨b,off,cap,rfl,hm,hc,hM⟩
   .exact nilS (ht:=ht)
   .refine zab ht (by simp) (fun j u hu=>?_) (zaE _)
    rw[zC]
    rw[List.getElem?_map]at hu
    cases hc':l'[j]? with
    | none=>rw[hc']at hu;cases hu
    | some c=>rw[hc']at hu;cases hu;exact hs.mem _ _ _ (hM j c hc')
  | str l'=>
   obtain⟨ht,rfl⟩:=zp h
   obtain⟨rfl,_⟩:=hy.str_inv
   have:=Src.ofString (P:=P) w (zbz ht) ⟨l'.toArray⟩
   have e1:byteCells ⟨l'.toArray⟩=l'.map zq:=rfl
   rw[e1]at this
   exact this
  | _=>cases h
 | arr id=>
  dsimp only[znS]at h
  cases ho:s.ob id with
  | none=>rw[ho]at h;cases h
  | some o=>
   rw[ho]at h
   cases o with
   | barr e mu l'=>
    obtain⟨ht,rfl⟩:=zp h
    obtain⟨ad,k,n,cap,hg,rfl⟩:=hy.arr_inv
    obtain⟨a2,cap2,hg',hA⟩:=hs.ob id _ ho
    rw[hg]at hg';cases hg'
    cases ad with
    | none=>
     have h0:=hA.none
     have hl:l'=[]:=List.eq_nil_of_length_eq_zero h0.1
     subst hl
     rw[h0.2]
     exact nilS (ht:=ht)
    | some g=>
     refine zab ht (by simp) (fun j u hu=>?_) (zaE _)
     rw[zC,Nat.zero_add]
     exact hA.cell j u hu
   | _=>cases h
 | _=>cases h
theorem zjF(hs:StG C γ M s a w){tx:TypeId}{y:AV}{k:Nat}{R:Rows}(h:znR P s.ob tx k y=some R){v:Value}(hy:ARel γ M y v):
 ∃ news,Src P k tx v R.n news w/\∀ i j,i<R.n->j<k->∃ u,news[i*k+j]?=some u/\zF M (R.f i j) u:=by
 have nilS:∀ {ht:yr P tx=true},Src P k tx (.slice none 0 0) 0 [] w:=fun {ht}=>by
  obtain⟨e,he⟩:=yn ht
  exact Src.ofNil w he 0
 cases y with
 | p q=>
  cases q with
  | nil=>
   obtain⟨ht,he⟩:=zp h
   cases he
   cases hy.p_inv
   exact⟨[],nilS (ht:=ht),fun i j hi _=>absurd hi (Nat.not_lt_zero _)⟩
  | list k' R'=>
   obtain⟨ht,he⟩:=zp h
   cases he
   rw[Bool.and_eq_true]at ht
   have hk:=Nat.eq_of_beq_eq_true ht.2
   subst hk
   cases hy.p_inv with
   | listNil k R h0=>exact⟨[],by rw[h0];exact nilS (ht:=ht.1),fun i j hi _=>by omega⟩
   | listZero k R a h0=>exact⟨[],by rw[h0];exact zab ht.1 (by simp) (fun j u hu=>by simp at hu) (fun u hu=>by cases hu),fun i j hi _=>by omega⟩
   | list k R b off cap g hm hc hM hf=>
    generalize hn:R.n=n at hm hc hM hf ⊢
    have hdiv:∀ q,q<n*k->q/k<n/\q % k<k/\q/k*k+q % k=q:=by
     intro q hq
     have hk0:0<k:=by
      rcases Nat.eq_zero_or_pos k with h0|h0
      .subst h0;simp at hq
      .exact h0
     exact⟨(Nat.div_lt_iff_lt_mul hk0).2 hq,Nat.mod_lt _ hk0,Nat.div_add_mod' q k⟩
    refine⟨(List.range (n*k)).map (fun q=>g (q/k) (q % k)),zab ht.1 (by simp) (fun j u hu=>?_) (fun u hu=>?_),fun i j hi hj=>?_⟩
    .rw [zC]
     rw[List.getElem?_map]at hu
     by_cases hj:j<n*k
     .rw [List.getElem?_range hj]at hu
      cases hu
      obtain⟨h1,h2,h3⟩:=hdiv j hj
      have:=hs.mem _ _ _ (hM _ _ h1 h2)
      rw[Nat.add_assoc,h3]at this
      exact this
     .rw [List.getElem?_eq_none (by simp;omega)]at hu;cases hu
    .obtain ⟨q,hq,rfl⟩:=List.mem_map.1 hu
     have hq':q<n*k:=by simpa using hq
     obtain⟨h1,h2,h3⟩:=hdiv q hq'
     exact(hf _ _ h1 h2).oneCell
    .have hlt:i*k+j<n*k:=by
      have:(i+1)*k<=n*k:=Nat.mul_le_mul_right k hi
      rw[Nat.add_mul,Nat.one_mul]at this
      omega
     have hk0:0<k:=by omega
     refine⟨g i j,?_,hf i j hi hj⟩
     rw[List.getElem?_map,List.getElem?_range hlt]
     have e1:(i*k+j)/k=i:=by rw[Nat.mul_comm,Nat.mul_add_div hk0,Nat.div_eq_of_lt hj,Nat.add_zero]
     have e2:(i*k+j) % k=j:=by rw[Nat.mul_comm,Nat.mul_add_mod,Nat.mod_eq_of_lt hj]
     simp[e1,e2]
  | _=>cases h
 | arr id=>
  dsimp only[znR]at h
  cases ho:s.ob id with
  | none=>rw[ho]at h;cases h
  | some o=>
   rw[ho]at h
   cases o with
   | larr e mu k' R=>
    obtain⟨ht,he⟩:=zp h
    cases he
    rw[Bool.and_eq_true]at ht
    have hk:=Nat.eq_of_beq_eq_true ht.2
    subst hk
    obtain⟨ad,k',n',cap,hg,rfl⟩:=hy.arr_inv
    obtain⟨a2,cap2,vs,hg',hv,hA⟩:=hs.ob id _ ho
    rw[hg]at hg';cases hg'
    cases ad with
    | none=>
     have h0:=hA.none
     obtain⟨h1,rfl⟩:=h0
     rw[h1]
     exact⟨[],nilS (ht:=ht.1),fun i j hi _=>absurd hi (Nat.not_lt_zero _)⟩
    | some g=>
     refine⟨vs,zab ht.1 hA.len_vs (fun j u hu=>?_) hA.one,hv⟩
     rw[zC,Nat.zero_add]
     exact hA.cell j u hu
   | _=>cases h
 | _=>cases h
end Go.Am
/-! Operations that write memory: append, store. -/
namespace Go.Am
open Go Go.RowKit
variable {P:Program}{γ γ':Nat->Option G}{M M':Mem}{C:Ctx}{s s':S}{a a':Act}{w w':World}
def zhX(ob:Nat->Option AObj)(e:TypeId):AV->Option (Option Nat×Option AObj)
 | .p .nil=>some (none,none)
 | .arr id=>match ob id with
  | some o=>yI (Nat.beq o.elem e) (some id,some o)
  | none=>none
 | _=>none
def zaz(P:Program)(ob:Nat->Option AObj)(t tx:TypeId):List AV->Option (AObj×Option Nat×Option Prop)
 | [x,y]=>match zcS P t with
  | some e=>match zax P e,zgS P e,zaL P e,zhX ob e x with
   | some (k'+1),some (b'+1),some z,some (old,bo)=>match Nat.beq z.length (k'+1)with
    | true=>match zhr P e&&Nat.beq (k'+1) 1 with
     | true=>match bo,znS P ob tx y with
      | none,some l=>some (.barr e false l,old,some (l.length*(b'+1)<=140737488355328))
      | some (.barr _ mu l0),some l=>some (.barr e mu (l0++l),old,some ((l0.length+l.length)*(b'+1)<=140737488355328))
      | _,_=>none
     | false=>match bo,znR P ob tx (k'+1) y with
      | none,some R=>some (.larr e false (k'+1) R,old,some (R.n*(b'+1)<=140737488355328))
      | some (.larr _ mu k0 R0),some R=>match Nat.beq k0 (k'+1)with
       | true=>some (.larr e mu (k'+1) (zeP R0 R),old,some ((R0.n+R.n)*(b'+1)<=140737488355328))
       | false=>none
      | _,_=>none
    | false=>none
   | _,_,_,_=>none
  | none=>none
 | _=>none
def zba(ob:Nat->Option AObj):Option Nat->Nat->Option AObj
 | some id=>upd ob id none
 | none=>ob
def yO(s:S)(d:Nat)(old:Option Nat)(o:AObj):S:=
 { sl:=upd s.sl d (.arr d),ob:=upd (zba s.ob old) d (some o),us:=upd s.us d true }
theorem zcK{ob:Nat->Option AObj}{old:Option Nat}{i:Nat}(h:zba ob old i≠none):zba ob old i=ob i/\some i≠old:=by
 cases old with
 | none=>exact⟨rfl,by simp⟩
 | some id=>
  unfold zba at *
  by_cases e:i=id
  .subst e;dsimp only at h;rw[zc]at h;exact absurd rfl h
  .dsimp only at *;exact⟨zh _ _ e,by simp[e]⟩
def zdr(M:Mem)(mu:Bool)(ad:Option Nat)(vs:List Value):Mem:=
 match ad with
 | some g=>zbZ M mu g vs
 | none=>M
theorem StG.appendRow(h:StG C γ M s a w){d:Nat}(hd:yu C.nt (some d)=true)(hu:s.us d=false){old:Option Nat}{o:AObj}
 {k n m cap cap':Nat} {vs news:List Value} {ad ad':Option Nat}
 (hold:match old with|some id=>∃ oo,s.ob id=some oo/\γ id=some (.arr ad k n cap)/\oo.mu=o.mu|none=>ad=none)
 (hA:zcq M w o.elem o.mu k n vs ad cap)
 (hown:w'.ownsRow 0 o.elem k (yP ad' (n+m) cap') (n+m) (vs++news)) (hg:zFr w w' ad ad')
 (h1:∀ u ∈ news,u.oneCell'=true) (hm:n+m<=maxLen) (hr:zdL M o k (n+m) (vs++news)):
 ∃ γ' M',StG C γ' M' (yO s d old o) (a.put (some d) (yP ad' (n+m) cap')) w':=by
 have hfresh:=h.mem.fresh (Nat.le_refl w.heap.size)
 have hmemle:∀ g,ad'=some g->∀ q v,M g q=some v->(vs++news)[q]?=some v:=by
  intro g hg' q v hv
  rcases hg.at_ with he|⟨g2,he,hge,_,_⟩
  .rw [he]at hg'
   have:=hA.mem g hg'
   cases hmu:o.mu with
   | true=>rw[hmu]at this;simp only[if_true]at this;rw[this q]at hv;cases hv
   | false=>
    rw[hmu]at this
    simp only[Bool.false_eq_true,if_false]at this
    rw[this q]at hv
    rw[List.getElem?_append_left]
    .exact hv
    .rcases Nat.lt_or_ge q vs.length with hl|hl
     .exact hl
     .rw [List.getElem?_eq_none hl]at hv;cases hv
  .rw [he]at hg';cases hg'
   rw[h.mem.fresh hge]at hv;cases hv
 let M':Mem:=zdr M o.mu ad' (vs++news)
 have hM:MLe M M':=by
  cases had:ad' with
  | none=>simp only[M',had,zdr];exact MLe.refl M
  | some g=>simp only[M',had,zdr];exact znb (hmemle g had)
 have hMne:∀ b,ad'≠some b->M' b=M b:=by
  intro b hb
  cases had:ad' with
  | none=>simp only[M',had,zdr]
  | some g=>simp only[M',had,zdr];exact ziy (fun e=>hb (by rw[had,e]))
 let γ':=upd γ d (some (.arr ad' k (n+m) cap'))
 have hγ:GLe γ γ':=by
  intro i g' hi
  by_cases e:i=d
  .subst e;rw[h.us i hu]at hi;cases hi
  .show upd γ d _ i=_;rw[zh _ _ e];exact hi
 have hdo:s.ob d=none:=by
  cases hq:s.ob d with
  | none=>rfl
  | some o'=>obtain⟨g,hg⟩:=(h.ob d o' hq).ghost;rw[h.us d hu]at hg;cases hg
 have hother:∀ i g b,zba s.ob old i≠none->γ i=some g->g.blk=some b->b<w.heap.size/\some b≠ad:=by
  intro i g b hi hgi hb
  obtain⟨e1,e2⟩:=zcK hi
  rw[e1]at hi
  have hlt:=(h.lo i g b hi hgi hb).2
  refine⟨hlt,fun e=>?_⟩
  cases old with
  | none=>simp only at hold;rw[hold]at e;cases e
  | some id=>
   obtain⟨oo,ho,hgo,_⟩:=hold
   have:=h.sep i id g _ b hi (by rw[ho];simp) hgi hgo hb (by rw[<-e];rfl)
   exact e2 (by rw[this])
 have hadlt:∀ g,ad=some g->(C.w0.heap.size<=g\/C.own g)/\g<w.heap.size:=by
  intro g hg'
  cases old with
  | none=>simp only at hold;rw[hold]at hg';cases hg'
  | some id=>
   obtain⟨oo,ho,hgo,_⟩:=hold
   exact h.lo id _ g (by rw[ho];simp) hgo hg'
 have hcell:∀ g,ad'=some g->∀ q u,(vs++news)[q]?=some u->w'.cell? ⟨g,q,none⟩=some u:=by
  intro g hg' q u hq
  subst hg'
  have:=hown.cells (g:=g) rfl q u hq
  rw[zC,Nat.zero_add]at this;exact this
 refine⟨γ',M',?_⟩
 refine h.master (s':=yO s d old o) hγ hM
  (za2 (dst:=some d) (by rw[h.nt];exact hd) (fun t=>(h.sl t).mono hγ hM) (.arr d _ _ _ _ (zc _ _ _))) (by rw[zae];exact h.nt) (by rw[yB];exact h.df) d
  ?_ (fun i hi=>zh _ _ hi) ?_ ?_ ?_ ?_ ?_ hg.size ?_ ?_ ?_
 .intro i hi
  show upd (zba s.ob old) d _ i=none\/upd (zba s.ob old) d _ i=s.ob i
  rw[zh _ _ hi]
  rcases Classical.em (zba s.ob old i=none)with e|e
  .exact .inl e
  .exact .inr (zcK e).1
 .intro i hi
  have hi':upd s.us d true i=false:=hi
  by_cases e:i=d
  .subst e;rw[zc]at hi';cases hi'
  .rw [zh _ _ e]at hi';exact⟨hi',e⟩
 .intro o' ho'
  have ho':upd (zba s.ob old) d (some o) d=some o':=ho'
  rw[zc]at ho';cases ho'
  refine OM.row (zc _ _ _) (hr.mono hM) ⟨hown,?_,hm,?_⟩
  .intro v hv
   rw[List.mem_append]at hv
   exact hv.elim (hA.one v) (h1 v)
  .intro g hg'
   simp only[M',hg',zdr]
   cases hmu:o.mu with
   | true=>
    simp only[if_true,zbZ]
    intro q
    cases hq:M g q with
    | none=>rfl
    | some v=>
     rcases hg.at_ with he|⟨g2,he,hge,_,_⟩
     .rw [he]at hg'
      have:=hA.mem g hg'
      rw[hmu]at this;simp only[if_true]at this
      rw[this q]at hq;cases hq
     .rw [he]at hg';cases hg'
      rw[h.mem.fresh hge]at hq;cases hq
   | false=>
    simp only[Bool.false_eq_true,if_false,zbZ]
    intro q;rw[zc]
 .intro i g b hi hob hgi hb
  have hob:upd (zba s.ob old) d (some o) i≠none:=hob
  rw[zh _ _ hi]at hob
  obtain⟨h2,h3⟩:=hother i g b hob hgi hb
  refine⟨hg.other b h2 h3,hMne b fun e=>?_⟩
  rcases hg.at_ with he|⟨g2,he,hge,_,_⟩
  .rw [he]at e;exact h3 e.symm
  .rw [he]at e;cases e;omega
 .intro i g1 g2 b hi hob _ hg1 hg2 hb1 hb2
  have hob:upd (zba s.ob old) d (some o) i≠none:=hob
  rw[zh _ _ hi]at hob
  obtain⟨h2,h3⟩:=hother i g1 b hob hg1 hb1
  have hg2:upd γ d (some (.arr ad' k (n+m) cap')) d=some g2:=hg2
  rw[zc]at hg2;cases hg2
  have hb2:ad'=some b:=hb2
  rcases hg.at_ with he|⟨g3,he,hge,_,_⟩
  .rw [he]at hb2;exact h3 hb2.symm
  .rw [he]at hb2;cases hb2;omega
 .intro g b _ hg' hb
  have hg':upd γ d (some (.arr ad' k (n+m) cap')) d=some g:=hg'
  rw[zc]at hg';cases hg'
  have hb:ad'=some b:=hb
  rcases hg.at_ with he|⟨g3,he,hge,hlt,_⟩
  .rw [he]at hb
   have:=hadlt b hb
   exact⟨this.1,Nat.lt_of_lt_of_le this.2 hg.size⟩
  .rw [he]at hb;cases hb
   exact⟨.inl (Nat.le_trans h.fr.size hge),hlt⟩
 .refine ⟨?_,h.mem.good.mono hM⟩
  intro b q v hv
  by_cases e:ad'=some b
  .have hv':=hv
   cases hmu:o.mu with
   | true=>
    simp only[M',e,hmu,zbZ,zdr]at hv'
    exact hcell b e q v (hmemle b e q v hv')
   | false=>
    simp only[M',e,hmu,zbZ,zdr]at hv'
    rw[zc]at hv'
    exact hcell b e q v hv'
  .rw [hMne b e]at hv
   have hc:=h.mem b q v hv
   have hb:b<w.heap.size:=World.block_lt_of_cell? w ⟨b,q,none⟩ hc
   by_cases e2:some b=ad
   . -- the old row's block,left behind
    rcases hg.at_ with he|⟨g3,he,hge,hlt,hall⟩
    .exact absurd (he.trans e2.symm) e
    .rw [World.cell?_of_block (w:=w) (hall b hb)];exact hc
   .rw [World.cell?_of_block (w:=w) (hg.other b hb e2)];exact hc
 .intro b hb hno
  refine hMne b fun e=>?_
  rcases hg.at_ with he|⟨g3,he,hge,_,_⟩
  .rw [he]at e
   have:=(hadlt b e).1
   rcases this with h2|h2
   .omega
   .exact hno h2
  .rw [he]at e;cases e
   have:=h.fr.size
   omega
 .have hf:=h.fr
  refine⟨hg.os.trans hf.os,hg.tape.trans hf.tape,hg.output.trans hf.output,Nat.le_trans hf.size hg.size,fun b hb hno=>?_,hf.tab⟩
  have hlt:b<w.heap.size:=Nat.lt_of_lt_of_le hb hf.size
  rw[hg.other b hlt ?_]
  .exact hf.block b hb hno
  .intro e
   have:=(hadlt b e.symm).1
   rcases this with h2|h2
   .omega
   .exact hno h2
end Go.Am
namespace Go.Am
open Go Go.RowKit
variable {P:Program}{γ γ':Nat->Option G}{M M':Mem}{C:Ctx}{s s':S}{a a':Act}{w w':World}
theorem zrn{t b:Nat}(h:zgS P t=some b):∃ i,P.info? t=some i/\i.bytes=b:=by
 unfold zgS at h
 cases hi:P.info? t with
 | none=>rw[hi]at h;cases h
 | some i=>rw[hi]at h;injection h with h;exact⟨i,rfl,h⟩
theorem zgz{t b:Nat}(h:zax P t=some b):∃ i,P.info? t=some i/\i.size=b:=by
 unfold zax at h
 cases hi:P.info? t with
 | none=>rw[hi]at h;cases h
 | some i=>rw[hi]at h;injection h with h;exact⟨i,rfl,h⟩
theorem zwv{e k b:Nat}{z:List AV}(h1:zax P e=some k)(h2:zgS P e=some b)(h3:zaL P e=some z)(h4:z.length=k):
 ∃ i zv,P.info? e=some i/\i.size=k/\i.bytes=b/\i.zero=some zv/\zv.cells.size=k:=by
 obtain⟨i,hi,hs⟩:=zgz h1
 obtain⟨i2,hi2,hb⟩:=zrn h2
 obtain⟨i3,zv,hi3,hz,_,rfl⟩:=ye h3
 rw[hi]at hi2 hi3;cases hi2;cases hi3
 exact⟨i,zv,hi,hs,hb,hz,by simpa using h4⟩
theorem zcM(M:Mem)(w:World)(e:TypeId)(mu:Bool)(k:Nat):zcq M w e mu k 0 [] none 0:=
 ⟨⟨by simp,.inl ⟨rfl,rfl⟩⟩,(fun v hv=>by cases hv),Nat.zero_le _,(fun g hg=>by cases hg)⟩
theorem zvV{n b:Nat}(h:n*(b+1)<=140737488355328):n<=maxLen:=by
 have:n*1<=n*(b+1):=Nat.mul_le_mul_left n (by omega)
 unfold maxLen;omega
theorem zdx(hs:StG C γ M s a w){d:Nat}(hd:yu C.nt (some d)=true)(hu:s.us d=false){t tx ty e k b:Nat}{z:List AV}(ht:zcS P t=some e)
 (h1:zax P e=some (k+1)) (h2:zgS P e=some (b+1)) (h3:zaL P e=some z) (h4:z.length=k+1)
 {old:Option Nat} {o:AObj} {n m:Nat} {vs news:List Value} {ad:Option Nat} {cap:Nat} (he:o.elem=e)
 (hold:match old with|some id=>∃ oo,s.ob id=some oo/\γ id=some (.arr ad (k+1) n cap)/\oo.mu=o.mu|none=>ad=none)
 (hA:zcq M w e o.mu (k+1) n vs ad cap) {v:Value} (hsrc:Src P (k+1) tx v m news w) (hby:(n+m)*(b+1)<=140737488355328)
 (hr:zdL M o (k+1) (n+m) (vs++news)):
 ∃ r w' γ' M',(Builtin.append_ #[t,tx] ty #[yP ad n cap,v]).run P w=.ok r w'/\StG C γ' M' (yO s d old o) (a.put (some d) r) w':=by
 obtain⟨i,zv,hi,hsz,hb,hz,hzs⟩:=zwv h1 h2 h3 h4
 subst he
 have hm:=zvV hby
 obtain⟨a',cap',w',hrun,hown,hg⟩:=zkL (P:=P) hA t tx ty i zv (zam ht) hi hz hsz hzs (by omega) v m news hsrc hm (by rw[hb];exact hby)
 obtain⟨γ',M',hst⟩:=hs.appendRow hd hu hold hA hown hg hsrc.one hm hr
 exact⟨_,w',γ',M',hrun,hst⟩
theorem zty{ob:Nat->Option AObj}{e:TypeId}{x:AV}{old:Option Nat}{bo:Option AObj}(h:zhX ob e x=some (old,bo)):
 (x=.p .nil/\old=none/\bo=none)\/∃ id o,x=.arr id/\ob id=some o/\o.elem=e/\old=some id/\bo=some o:=by
 unfold zhX at h
 split at h
 .cases h;exact .inl ⟨rfl,rfl,rfl⟩
 .rename_i id
  split at h
  .rename_i o ho
   obtain⟨hb,he⟩:=zp h
   cases he
   exact .inr ⟨id,o,rfl,ho,Nat.eq_of_beq_eq_true hb,rfl,rfl⟩
  .cases h
 .cases h
theorem zlG(hs:StG C γ M s a w){d:Nat}(hd:yu C.nt (some d)=true)(hu:s.us d=false){t tx ty:TypeId}{x y:AV}{o:AObj}{old:Option Nat}{ok:Option Prop}
 (h:zaz P s.ob t tx [x,y]=some (o,old,ok)) (hok:okP ok) {u v:Value} (hx:ARel γ M x u) (hy:ARel γ M y v):
 ∃ r w' γ' M',(Builtin.append_ #[t,tx] ty #[u,v]).run P w=.ok r w'/\StG C γ' M' (yO s d old o) (a.put (some d) r) w':=by
 unfold zaz at h
 split at h
 .rename_i x' y' heq
  cases heq
  split at h
  .rename_i e he
   split at h
   .rename_i k b z old' bo h1 h2 h3 hbase
    split at h
    .rename_i hzl
     have h4:=Nat.eq_of_beq_eq_true hzl
     have hbs:=zty hbase
     split at h
     .rename_i hu8
      rw[Bool.and_eq_true]at hu8
      have hk0:k=0:=by have:=Nat.eq_of_beq_eq_true hu8.2;omega
      subst hk0
      split at h
      .rename_i l hsrc
       cases h
       have hsrc':=zjH (P:=P) hs hsrc hy
       rcases hbs with⟨rfl,rfl,_⟩|⟨_,_,_,_,_,_,hc⟩
       .cases hx.p_inv
        exact zdx (ty:=ty) hs hd hu he h1 h2 h3 h4 (old:=none) (n:=0) (m:=l.length) (vs:=[]) (ad:=none) (cap:=0) (o:=.barr e false l) rfl rfl (zcM M w _ _ _) hsrc' (by rw[Nat.zero_add];exact hok) ⟨rfl,by simp,rfl⟩
       .cases hc
      .rename_i e2 mu l0 l hsrc
       cases h
       have hsrc':=zjH (P:=P) hs hsrc hy
       rcases hbs with⟨_,_,hc⟩|⟨id,o',rfl,ho,hel,rfl,hc⟩
       .cases hc
       .cases hc
        obtain⟨ad,k',n,cap,hg,rfl⟩:=hx.arr_inv
        obtain⟨a2,cap2,hg',hA⟩:=hs.ob id _ ho
        rw[hg]at hg';cases hg'
        have hel:e2=e:=hel
        subst hel
        exact zdx (ty:=ty) hs hd hu he h1 h2 h3 h4 (old:=some id) (o:=.barr e2 mu (l0++l)) rfl ⟨_,ho,hg,rfl⟩ hA hsrc' hok ⟨rfl,by simp,by simp⟩
      .cases h
     .split at h
      .rename_i R hsrc
       cases h
       obtain⟨news,hsrc',hf⟩:=zjF (P:=P) hs hsrc hy
       rcases hbs with⟨rfl,rfl,_⟩|⟨_,_,_,_,_,_,hc⟩
       .cases hx.p_inv
        exact zdx (ty:=ty) hs hd hu he h1 h2 h3 h4 (old:=none) (n:=0) (m:=R.n) (vs:=[]) (ad:=none) (cap:=0) (o:=.larr e false (k+1) R) rfl rfl (zcM M w _ _ _) hsrc' (by rw[Nat.zero_add];exact hok) ⟨rfl,by simp,by simpa using hf⟩
       .cases hc
      .rename_i e2 mu k0 R0 R hsrc
       split at h
       .rename_i hk0
        have hk0:=Nat.eq_of_beq_eq_true hk0
        subst hk0
        cases h
        obtain⟨news,hsrc',hf⟩:=zjF (P:=P) hs hsrc hy
        rcases hbs with⟨_,_,hc⟩|⟨id,o',rfl,ho,hel,rfl,hc⟩
        .cases hc
        .cases hc
         obtain⟨ad,k',n',cap,hg,rfl⟩:=hx.arr_inv
         obtain⟨a2,cap2,vs,hg',hv,hA⟩:=hs.ob id _ ho
         rw[hg]at hg';cases hg'
         have hel:e2=e:=hel
         subst hel
         have hcat:=zwB R0 R
         refine zdx (ty:=ty) hs hd hu he h1 h2 h3 h4 (old:=some id) (o:=.larr e2 mu (k+1) (zeP R0 R)) rfl ⟨_,ho,hg,rfl⟩ hA hsrc' hok ⟨rfl,hcat.1.symm,?_⟩
         intro i j hi hj
         have hlv:=hA.len_vs
         rcases Nat.lt_or_ge i R0.n with hlt|hge
         .obtain ⟨q,hq1,hq2⟩:=hv i j hlt hj
          refine⟨q,?_,by rw[hcat.2.1 i j hlt];exact hq2⟩
          rw[List.getElem?_append_left]
          .exact hq1
          .rcases Nat.lt_or_ge (i*(k+1)+j) vs.length with h5|h5
           .exact h5
           .rw [List.getElem?_eq_none h5]at hq1;cases hq1
         .obtain ⟨q,hq1,hq2⟩:=hf (i-R0.n) j (by omega) hj
          refine⟨q,?_,by rw[hcat.2.2 i j hge hi];exact hq2⟩
          have e3:i*(k+1)+j=vs.length+((i-R0.n)*(k+1)+j):=by
           rw[hlv,<-Nat.add_assoc,<-Nat.add_mul]
           congr 2
           omega
          rw[e3,List.getElem?_append_right (by omega),Nat.add_sub_cancel_left]
          exact hq1
       .cases h
      .cases h
    .cases h
   .cases h
  .cases h
 .rename_i hne
  exact absurd rfl (hne x y)
def zdv(P:Program)(ob:Nat->Option AObj)(t:TypeId):List AV->Option (Nat×AObj×Option Prop)
 | [.ref id off,x]=>match ob id,x.cells?,zax P t with
  | some (.cells cs),some ys,some n=>match Nat.beq ys.length n&&Nat.ble (off+n) cs.length&&ys.all AV.one with
   | true=>some (id,.cells (over cs off ys),none)
   | false=>none
  | some (.bldr T _),some [y],some 1=>match Nat.beq off 1&&y.one with
   | true=>some (id,.bldr T y,none)
   | false=>none
  | _,_,_=>none
 | [.aptr id i j,x]=>match ob id,x,zax P t with
  | some (.barr e true l),.p (.int .u8 v),some 1=>match j with
   | 0=>some (id,.barr e true (l.set i (UInt8.ofNat v.toNat)),some (i<l.length))
   | _=>none
  | some (.bcv e l),.p (.int .u8 v),some 1=>match j with
   | 0=>some (id,.bcv e (l.set i (UInt8.ofNat v.toNat)),some (i<l.length))
   | _=>none
  | some (.larr e true k R),x,some m=>match x.cells? with
   | some ys=>match zx zxk ys with
    | some ps=>match Nat.beq ys.length m&&Nat.ble (j+m) k with
     | true=>some (id,.larr e true k (zBf R k i j m ps),some (i<R.n))
     | false=>none
    | none=>none
   | none=>none
  | _,_,_=>none
 | _=>none
theorem zjd(cur:Array Value)(off:Nat)(vs:List Value)(h:off+vs.length<=cur.size):
 ∀ j,(cur.toList.take off++vs++cur.toList.drop (off+vs.length)).toArray[j]?=if off<=j/\j<off+vs.length then vs[j-off]? else cur[j]?:=by
 intro j
 have hl:(cur.toList.take off).length=off:=by simp;omega
 rw[List.getElem?_toArray]
 by_cases h1:j<off
 .rw [List.append_assoc,List.getElem?_append_left (by omega),if_neg (by omega),List.getElem?_take,if_pos h1,Array.getElem?_toList]
 .rw [List.append_assoc,List.getElem?_append_right (by omega),hl]
  by_cases h2:j<off+vs.length
  .rw [List.getElem?_append_left (by omega),if_pos (by omega)]
  .rw [List.getElem?_append_right (by omega),if_neg (by omega),List.getElem?_drop,Array.getElem?_toList]
   congr 1
   omega
theorem StG.write(h:StG C γ M s a w){id:Nat}{o o':AObj}(ho:s.ob id=some o){g:G}(hg:γ id=some g){b:Nat}(hb:g.blk=some b)
 {w':World} (hos:w'.os=w.os) (htape:w'.tape=w.tape) (hout:w'.output=w.output) (hsz:w'.heap.size=w.heap.size)
 (hother:∀ c,c≠b->w'.heap[c]?=w.heap[c]?) (hM:∀ q,M b q=none) (hn:OM γ M w' id o'):
 StG C γ M { s with ob:=upd s.ob id (some o') } a w':=by
 have hne:s.ob id≠none:=by rw[ho];simp
 have hblk:∀ i g' c,i≠id->s.ob i≠none->γ i=some g'->g'.blk=some c->c≠b:=by
  intro i g' c hi hob hgi hc e
  subst e
  exact hi (h.sep i id g' g c hob hne hgi hg hc hb)
 have hl:=h.lo id g b hne hg hb
 refine h.master (s':={ s with ob:=upd s.ob id (some o') }) (GLe.refl γ) (MLe.refl M) h.sl h.nt h.df id
  (fun i hi=>.inr (zh _ _ hi)) (fun _ _=>rfl) ?_ ?_ ?_ ?_ ?_ (by omega) ?_ (fun _ _ _=>rfl) ?_
 .intro i hi
  refine⟨hi,fun e=>?_⟩
  subst e
  rw[h.us i hi]at hg;cases hg
 .intro o2 ho2
  dsimp only at ho2
  rw[zc]at ho2;cases ho2;exact hn
 .intro i g' c hi hob hgi hc
  dsimp only at hob
  rw[zh _ _ hi]at hob
  exact⟨hother c (hblk i g' c hi hob hgi hc),rfl⟩
 .intro i g1 g2 c hi hob _ hg1 hg2 hb1 hb2
  dsimp only at hob
  rw[zh _ _ hi]at hob
  rw[hg]at hg2;cases hg2
  rw[hb]at hb2;cases hb2
  exact hblk i g1 b hi hob hg1 hb1 rfl
 .intro g' c _ hg' hc
  rw[hg]at hg';cases hg'
  rw[hb]at hc;cases hc
  exact⟨hl.1,by omega⟩
 .refine ⟨?_,h.mem.good⟩
  intro c q v hv
  by_cases e:c=b
  .subst e;rw[hM q]at hv;cases hv
  .rw [World.cell?_of_block (w:=w) (hother c e)];exact h.mem c q v hv
 .have hf:=h.fr
  refine⟨hos.trans hf.os,htape.trans hf.tape,hout.trans hf.output,by have:=hf.size;omega,fun c hc hno=>?_,hf.tab⟩
  rw[hother c ?_]
  .exact hf.block c hc hno
  .intro e
   subst e
   rcases hl.1 with h2|h2
   .omega
   .exact hno h2
theorem zdD(vs xs:List Value)(off:Nat)(h:off+xs.length<=vs.length)(j:Nat):
 (vs.take off++xs++vs.drop (off+xs.length))[j]?=if off<=j/\j<off+xs.length then xs[j-off]? else vs[j]?:=by
 have hl:(vs.take off).length=off:=by simp;omega
 by_cases h1:j<off
 .rw [List.append_assoc,List.getElem?_append_left (by omega),if_neg (by omega),List.getElem?_take,if_pos h1]
 .rw [List.append_assoc,List.getElem?_append_right (by omega),hl]
  by_cases h2:j<off+xs.length
  .rw [List.getElem?_append_left (by omega),if_pos (by omega)]
  .rw [List.getElem?_append_right (by omega),if_neg (by omega),List.getElem?_drop]
   congr 1
   omega
theorem zm1(hs:StG C γ M s a w){id:Nat}{o o':AObj}(ho:s.ob id=some o){g k n cap:Nat}(hg:γ id=some (.arr (some g) k n cap)){vs:List Value}
 (hA:zcq M w o.elem o.mu k n vs (some g) cap) (hmu:o.mu=true) {t m:Nat} (hn:zax P t=some m) {v:Value} (hsz:v.cells.size=m)
 (hone:∀ u ∈ v.cells.toList,u.oneCell'=true) {base:Nat} (hb:base+m<=n*k) (he:o'.elem=o.elem) (hmu':o'.mu=true)
 (hr:zdL M o' k n (vs.take base++v.cells.toList++vs.drop (base+m))):
 ∃ w',(Instr.storeAt t (.pointer (some ⟨g,base,none⟩)) v).run P w=.ok () w'/\StG C γ M { s with ob:=upd s.ob id (some o') } a w':=by
 have hM:∀ q,M g q=none:=by have:=hA.mem g rfl;rw[hmu]at this;simpa using this
 have hl:v.cells.toList.length=m:=by simpa using hsz
 rcases hA.own.2 with⟨hv,_⟩|⟨g',cap',cur,hv,_,hh,hnc,hcm,hcs,htake⟩
 .simp [yP]at hv
 .simp only[yP,Option.map_some,Value.slice.injEq,Option.some.injEq,Addr.mk.injEq,and_true,true_and]at hv
  obtain⟨rfl,rfl⟩:=hv
  have hnk:n*k<=cur.size:=by rw[hcs];exact Nat.mul_le_mul_right k hnc
  have hvl:=hA.len_vs
  have hrun:=run_storeCells_at P g base o.elem v.cells.toList 0 cur w hh (by rw[hl];omega) hone
  simp only[Nat.add_zero]at hrun
  have hov:=zjd cur base v.cells.toList (by rw[hl];omega)
  have hov2:=zdD vs v.cells.toList base (by rw[hl,hvl];exact hb)
  rw[hl]at hov hov2 hrun
  refine⟨w.setRow g (cur.toList.take base++v.cells.toList++cur.toList.drop (base+m)).toArray,?_,
   hs.write (w':=w.setRow g (cur.toList.take base++v.cells.toList++cur.toList.drop (base+m)).toArray) ho hg rfl rfl rfl rfl (by simp) (fun c hc=>setRow_other w g c _ hc) hM
    (OM.row hg hr ⟨⟨?_,.inr ⟨g,cap,_,rfl,Nat.zero_le _,by rw[he];exact setRow_heap w g cur _ _ _ hh,hnc,hcm,?_,?_⟩⟩,?_,hA.len,?_⟩)⟩
  .simp only[Instr.storeAt,Instr.sureAddr,Sem.run_bind,Sem.run_pure,Result.andThen_ok,storeVar,yf hn]
   rw[if_neg (by simp[hsz])]
   exact hrun
  .simp only[List.length_append,List.length_take,List.length_drop,hl];omega
  .simp only[List.size_toArray,List.length_append,List.length_take,List.length_drop,Array.length_toList,hl];omega
  .apply List.ext_getElem?
   intro q
   rw[hov2 q,List.getElem?_take]
   by_cases hq:q<n*k
   .rw [if_pos hq,Array.getElem?_toList,hov q]
    by_cases hc:base<=q/\q<base+m
    .rw [if_pos hc,if_pos hc]
    .rw [if_neg hc,if_neg hc,<-htake,List.getElem?_take,if_pos hq,Array.getElem?_toList]
   .rw [if_neg hq,if_neg (by omega),List.getElem?_eq_none (by omega)]
  .intro u hu
   rw[List.mem_append,List.mem_append]at hu
   rcases hu with(hu|hu)|hu
   .exact hA.one u (List.mem_of_mem_take hu)
   .exact hone u hu
   .exact hA.one u (List.mem_of_mem_drop hu)
  .intro g' hg'
   cases hg'
   rw[hmu']
   simpa using hM
theorem zgl(g i:Nat)(t:TypeId)(fz:Nat×Nat)(cur:Array Value)(w:World)(v:Value)(hg:w.heap[g]?=some (.cells cur t fz))(hi:i<cur.size)(hf:fz.2<=i\/i<fz.1)(h1:v.oneCell'=true):
 (storeCells ⟨g,i,none⟩ [v] 0).run P w=.ok () (w.setRow g (cur.setIfInBounds i v)):=by
 have hadd:(⟨g,i,none⟩:Addr).add 0=⟨g,i,none⟩:=by unfold Addr.add;split <;> simp_all
 have hcell:w.cell? ⟨g,i,none⟩=some cur[i]:=by simp[World.cell?,hg,hi]
 have hfro:w.frozen? ⟨g,i,none⟩=false:=by
  obtain⟨lo,hi'⟩:=fz
  simp only[World.frozen?,hg,Bool.and_eq_false_iff,decide_eq_false_iff_not]
  rcases hf with h|h
  .exact .inr (by simpa using h)
  .exact .inl (by simpa using h)
 have hst:(store ((⟨g,i,none⟩:Addr).add 0) v).run P w=.ok () (w.setRow g (cur.setIfInBounds i v)):=by
  rw[hadd,run_store P w _ v _ h1,hcell]
  simp[hfro,setCell_eq_setRow w g i cur t fz v hg]
 simp only[storeCells,Sem.run_bind,hst,Result.andThen_ok]
 rfl
theorem zms(hs:StG C γ M s a w){t id:Nat}{x y:AV}{o:AObj}{ok:Option Prop}(h:zdv P s.ob t [x,y]=some (id,o,ok))(hok:okP ok){u v:Value}
 (hx:ARel γ M x u) (hy:ARel γ M y v):
 ∃ w',(Instr.storeAt t u v).run P w=.ok () w'/\StG C γ M { s with ob:=upd s.ob id (some o) } a w':=by
 cases x with
 | ref id' off=>
  dsimp only[zdv]at h
  split at h
  .rename_i cs ys n ho hc hn
   split at h
   .rename_i hb
    cases h
    rw[Bool.and_eq_true,Bool.and_eq_true]at hb
    have h1:=Nat.eq_of_beq_eq_true hb.1.1
    have h2:=Nat.le_of_ble_eq_true hb.1.2
    have h3:=hb.2
    obtain⟨b,hg,rfl⟩:=hx.ref_inv
    obtain⟨b',vs,e,hg',hh,hsz,hcc,hm⟩:=hs.ob id _ ho
    rw[hg]at hg';cases hg'
    have hr:=zdb hc hy
    have hone:=zm6 hr h3
    have hl:v.cells.toList.length=ys.length:=by simpa using hr.1
    have hrun:=run_storeCells_at P b off e v.cells.toList 0 vs w hh (by rw[hl];omega) (by
     intro q hq
     obtain⟨j,hj,rfl⟩:=List.getElem_of_mem hq
     have hj':j<v.cells.size:=by simpa using hj
     have:=hone j (by rw[<-hr.1];exact hj')
     rw[Array.getD_eq_getD_getElem?,Array.getElem?_eq_getElem hj']at this
     simpa using this)
    simp only[Nat.add_zero]at hrun
    have hov:=zjd vs off v.cells.toList (by rw[hl];omega)
    have hle:off+ys.length<=cs.length:=by omega
    refine⟨w.setRow b (vs.toList.take off++v.cells.toList++vs.toList.drop (off+v.cells.toList.length)).toArray,?_,
     hs.write (w':=w.setRow b (vs.toList.take off++v.cells.toList++vs.toList.drop (off+v.cells.toList.length)).toArray) ho hg rfl rfl rfl rfl (by simp) (fun c hc=>setRow_other w b c _ hc) hm ⟨b,_,e,hg,setRow_heap w b vs _ e _ hh,?_,fun j hj=>?_,hm⟩⟩
    .have hsz2:v.cells.size=n:=by rw[hr.1];exact h1
     simp only[Instr.storeAt,Instr.sureAddr,Sem.run_bind,Sem.run_pure,Result.andThen_ok,storeVar,yf hn]
     rw[if_neg (by simp[hsz2])]
     exact hrun
    .rw [zcg hle]
     simp only[List.size_toArray,List.length_append,List.length_take,List.length_drop,Array.length_toList]at hl ⊢
     omega
    .rw [zcg hle]at hj
     rw[zqb hle,Array.getD_eq_getD_getElem?,hov j,hl]
     by_cases hcnd:off<=j/\j<off+ys.length
     .rw [if_pos hcnd,if_pos hcnd]
      have q1:=hr.2 (j-off) (by omega)
      have q2:=hone (j-off) (by omega)
      rw[Array.getD_eq_getD_getElem?]at q1 q2
      rw[Array.getElem?_toList]
      exact⟨q1,q2⟩
     .rw [if_neg hcnd,if_neg hcnd]
      have:=hcc j hj
      rw[Array.getD_eq_getD_getElem?]at this
      exact this
   .cases h
  .rename_i T a0 y' ho hc hn
   split at h
   .rename_i hb
    cases h
    rw[Bool.and_eq_true]at hb
    have h1:=Nat.eq_of_beq_eq_true hb.1
    subst h1
    obtain⟨b,hg,rfl⟩:=hx.ref_inv
    obtain⟨b',v0,v1,hg',hh,h0,_,_,hm⟩:=hs.ob id _ ho
    rw[hg]at hg';cases hg'
    have hr:=zdb hc hy
    have hsz:v.cells.size=1:=hr.1
    obtain⟨u,hu⟩:∃ u,v.cells=#[u]:=by
     match hq:v.cells,hsz with
     | ⟨[u]⟩,_=>exact⟨u,rfl⟩
    have hyu:ARel γ M y' u:=by
     have:=hr.2 0 (by simp)
     simpa[hu]using this
    have hone:u.oneCell'=true:=hyu.oneCell hb.2
    have hrun:=zgl (P:=P) b 1 T (0,0) #[v0,v1] w u hh (by simp) (.inl (by simp)) hone
    refine⟨w.setRow b (#[v0,v1].setIfInBounds 1 u),?_,hs.write (w':=w.setRow b (#[v0,v1].setIfInBounds 1 u)) ho hg rfl rfl rfl rfl (by simp) (fun c hc=>setRow_other w b c _ hc) hm ⟨b,v0,u,hg,setRow_heap w b #[v0,v1] _ T _ hh,h0,hyu,hone,hm⟩⟩
    simp only[Instr.storeAt,Instr.sureAddr,Sem.run_bind,Sem.run_pure,Result.andThen_ok,storeVar,yf hn]
    rw[if_neg (by simp[hsz]),hu]
    exact hrun
   .cases h
  .cases h
 | aptr id' i j=>
  dsimp only[zdv]at h
  obtain⟨g,k,n,cap,hg,rfl⟩:=hx.aptr_inv
  split at h
  .rename_i e l v' ho hn
   split at h
   .cases h
    have hlt:i<l.length:=hok
    obtain⟨a2,cap2,hg',hA⟩:=hs.ob id _ ho
    rw[hg]at hg';cases hg'
    obtain⟨rfl,hv⟩:=hy.int_inv
    refine zm1 (P:=P) (v:=.int .u8 v') hs ho hg hA rfl hn rfl (by simp[Value.cells,Value.oneCell']) (base:=i*1+0) (by omega) rfl rfl ⟨rfl,by simp,?_⟩
    rw[zkq hv]
    have hov2:=zdD (l.map zq) [zq (UInt8.ofNat v'.toNat)] (i*1+0) (by simp;omega)
    apply List.ext_getElem?
    intro q
    refine(hov2 q).trans ?_
    rw[List.map_set,List.getElem?_set]
    simp only[Nat.mul_one,Nat.add_zero,List.length_singleton,List.length_map]
    by_cases hq:i=q
    .subst hq
     rw[if_pos (by omega),if_pos rfl,if_pos hlt]
     simp
    .rw [if_neg (by omega),if_neg hq]
   .cases h
  .rename_i e l v' ho hn
   split at h
   .cases h
    have hlt:i<l.length:=hok
    obtain⟨g',cur,hg',hh,ht,hc,hl,hm⟩:=hs.ob id _ ho
    rw[hg]at hg';cases hg'
    obtain⟨rfl,hv⟩:=hy.int_inv
    have hrun:=zgl (P:=P) g i e _ cur w (.int .u8 v') hh (by omega) (.inr (by show i<cur.size;omega)) rfl
    have hsz:(cur.setIfInBounds i (.int .u8 v')).size=cur.size:=by simp
    refine⟨w.setRow g (cur.setIfInBounds i (.int .u8 v')),?_,hs.write (w':=w.setRow g (cur.setIfInBounds i (.int .u8 v'))) ho hg rfl rfl rfl rfl (by simp) (fun c hc=>setRow_other w g c _ hc) hm
     ⟨g,cur.setIfInBounds i (.int .u8 v'),by rw[hsz,List.length_set];exact hg,by rw[hsz];exact setRow_heap w g cur _ e _ hh,?_,by rw[hsz,List.length_set];exact hc,by rw[List.length_set];exact hl,hm⟩⟩
    .simp only[Instr.storeAt,Instr.sureAddr,Sem.run_bind,Sem.run_pure,Result.andThen_ok,storeVar,yf hn]
     rw[if_neg (by simp[Value.cells])]
     simpa[Value.cells]using hrun
    .rw [zkq hv,List.length_set,Array.toList_setIfInBounds,List.take_set,ht,List.map_set]
   .cases h
  .rename_i e k2 R m ho hn
   split at h
   .rename_i ys hc
    split at h
    .rename_i ps hps
     split at h
     .rename_i hb
      cases h
      rw[Bool.and_eq_true]at hb
      have h1:=Nat.eq_of_beq_eq_true hb.1
      have h2:=Nat.le_of_ble_eq_true hb.2
      obtain⟨a2,cap2,vs,hg',hv,hA⟩:=hs.ob id _ ho
      rw[hg]at hg';cases hg'
      have hr:=zdb hc hy
      have hlt:i<R.n:=hok
      have hset:=zvw (M:=M) R k i j m ps
      obtain⟨q1,q2⟩:=zaX hps
      have hpv:∀ q,q<ys.length->∃ p,ps[q]?=some p/\zF M p (v.cells.getD q undef):=by
       intro q hq
       obtain⟨p,hp,hf⟩:=q2 q _ (List.getElem?_eq_getElem hq)
       refine⟨p,hp,?_⟩
       have:=hr.2 q hq
       rw[List.getD_eq_getElem?_getD,List.getElem?_eq_getElem hq]at this
       unfold zxk at hf
       split at hf
       .rename_i hx2
        cases hf
        simp only[Option.getD_some]at this
        rw[hx2]at this
        exact this.p_inv
       .cases hf
      have hik:(i+1)*k<=R.n*k:=Nat.mul_le_mul_right k hlt
      rw[Nat.add_mul,Nat.one_mul]at hik
      have hvl:=hA.len_vs
      have hsz:v.cells.size=m:=by rw[hr.1];exact h1
      refine zm1 (P:=P) (v:=v) hs ho hg hA rfl hn hsz ?_ (base:=i*k+j) (by omega) rfl rfl ⟨rfl,hset.1.symm,?_⟩
      .intro u hu
       obtain⟨q,hq,rfl⟩:=List.getElem_of_mem hu
       have hq':q<v.cells.size:=by simpa using hq
       obtain⟨p,_,hp⟩:=hpv q (by rw[<-hr.1];exact hq')
       rw[Array.getD_eq_getD_getElem?,Array.getElem?_eq_getElem hq']at hp
       exact hp.oneCell
      .intro i' j' hi' hj'
       suffices hraw:∃ u,(vs.take (i*k+j)++v.cells.toList++vs.drop (i*k+j+m))[i'*k+j']?=some u/\zF M (zcA R.f i j m ps i' j') u by
        obtain⟨u,hu1,hu2⟩:=hraw
        exact⟨u,hu1,hset.2 i' j' hi' hj' u hu2⟩
       unfold zcA
       have hl:v.cells.toList.length=m:=by simpa using hsz
       have hov2:=zdD vs v.cells.toList (i*k+j) (by rw[hl];omega) (i'*k+j')
       rw[hl]at hov2
       rw[hov2]
       by_cases hi:i'=i
       .subst hi
        have e1:Nat.beq i' i'=true:=by simp
        by_cases hj:j<=j'/\j'<j+m
        .have e2:Nat.ble j j'=true:=Nat.ble_eq_true_of_le hj.1
         have e3:Nat.blt j' (j+m)=true:=Nat.ble_eq_true_of_le hj.2
         rw[if_pos (by omega)]
         simp only[e1,e2,e3,Bool.and_self]
         obtain⟨p,hp1,hp2⟩:=hpv (j'-j) (by omega)
         have e4:i'*k+j'-(i'*k+j)=j'-j:=by omega
         rw[e4,Array.getElem?_toList,Array.getElem?_eq_getElem (by omega)]
         refine⟨_,rfl,?_⟩
         rw[List.getD_eq_getElem?_getD,hp1]
         rw[Array.getD_eq_getD_getElem?,Array.getElem?_eq_getElem (by omega)]at hp2
         exact hp2
        .have e2:(Nat.beq i' i'&&Nat.ble j j'&&Nat.blt j' (j+m))=false:=by
          rw[Bool.and_eq_false_iff]
          by_cases h5:j<=j'
          .right
           cases hb2:Nat.blt j' (j+m)with
           | false=>rfl
           | true=>exact absurd ⟨h5,Nat.le_of_ble_eq_true hb2⟩ hj
          .left
           rw[Bool.and_eq_false_iff];right
           cases hb2:Nat.ble j j' with
           | false=>rfl
           | true=>exact absurd (Nat.le_of_ble_eq_true hb2) h5
         rw[if_neg (by omega)]
         simp only[e2]
         exact hv i' j' hi' hj'
       .have e1:Nat.beq i' i=false:=by
         cases hb2:Nat.beq i' i with
         | false=>rfl
         | true=>exact absurd (Nat.eq_of_beq_eq_true hb2) hi
        have hne:¬ (i*k+j<=i'*k+j'/\i'*k+j'<i*k+j+m):=by
         rcases Nat.lt_or_gt_of_ne hi with h5|h5
         .have:(i'+1)*k<=i*k:=Nat.mul_le_mul_right k h5
          rw[Nat.add_mul,Nat.one_mul]at this
          omega
         .have:(i+1)*k<=i'*k:=Nat.mul_le_mul_right k h5
          rw[Nat.add_mul,Nat.one_mul]at this
          omega
        rw[if_neg hne]
        simp only[e1,Bool.false_and]
        exact hv i' j' hi' hj'
     .cases h
    .cases h
   .cases h
  .cases h
 | _=>cases h
end Go.Am
/-! Calls of functions by their contracts;one operation. -/
namespace Go.Am
open Go Go.RowKit
variable {P:Program}{γ γ':Nat->Option G}{M M':Mem}{C:Ctx}{s s':S}{a a':Act}{w w':World}
abbrev γ0:Nat->Option G:=fun _=>none
def FnP(P:Program)(f:FuncId)(args:List AV)(r:AV):Prop:=
 ∀ (M:Mem) (w:World) (vs:List Value),WOk M w->ARels γ0 M args vs->
  Calls P f vs.toArray w fun e w'=>∃ v M',e=.returned v/\MLe M M'/\(∀ b,b<w.heap.size->M' b=M b)/\MOk M' w'/\ARel γ0 M' r v/\Below w.heap.size w w'
def zR(P:Program)(f:FuncId):Bool:=
 match P.funcs[f]? with
 | some fn=>fn.body.isSome&&!(fn.name== "runtime.NumGoroutine")
 | none=>false
theorem ym{f:FuncId}(h:zR P f=true)(vs:Array Value)(w:World):(callFunc f vs).run P w=.ok (.enter f vs) w:=by
 unfold zR at h
 cases hf:P.funcs[f]? with
 | none=>rw[hf]at h;cases h
 | some fn=>
  rw[hf]at h
  dsimp only at h
  rw[Bool.and_eq_true,Bool.not_eq_true']at h
  have h2:fn.body.isNone=false:=by cases hb:fn.body with|none=>rw[hb]at h;cases h.1|some _=>rfl
  have h3:¬ (fn.name= "runtime.NumGoroutine"):=by have:=h.2;simpa using this
  have h4:¬ (fn.body=none):=by intro e;rw[e]at h2;cases h2
  simp[callFunc,hf,h3,h4]
abbrev Env:=FuncId->List AV->Option (AV×Option Prop)
def ExtP(P:Program)(f:FuncId)(args:List AV)(r:AV):Prop:=
 ∀ (M:Mem) (w:World) (vs:List Value),WOk M w->ARels γ0 M args vs->∃ v,(callFunc f vs.toArray).run P w=.ok (.value v) w/\ARel γ0 M r v
def zDL(P:Program)(f:FuncId)(args:List AV)(r:AV):Prop:=(zR P f=true/\FnP P f args r)\/ExtP P f args r
def yQ(P:Program)(env:Env):Prop:=∀ f zs r ok,env f zs=some (r,ok)->okP ok->zDL P f zs r
def zbT(ob:Nat->Option AObj):AV->Option AV
 | .p x=>some (.p x)
 | .arr id=>match ob id with
  | some (.barr _ false l)=>some (.p (.bytes l))
  | some (.larr _ false k R)=>some (.p (.list k R))
  | _=>none
 | _=>none
def zeN(ob:Nat->Option AObj):AV->Option AV
 | .agg cs=>(zx (zbT ob) cs).map .agg
 | .clo fn fs cs=>match zx (zbT ob) fs,zx (zbT ob) cs with
  | some fs',some cs'=>some (.clo fn fs' cs')
  | _,_=>none
 | x=>zbT ob x
theorem yR(hs:StG C γ M s a w){x z:AV}(h:zbT s.ob x=some z){v:Value}(hx:ARel γ M x v):ARel γ0 M z v:=by
 cases x with
 | p q=>cases h;exact .p _ _ hx.p_inv
 | arr id=>
  obtain⟨ad,k,n,cap,hg,rfl⟩:=hx.arr_inv
  dsimp only[zbT]at h
  cases ho:s.ob id with
  | none=>rw[ho]at h;cases h
  | some o=>
   rw[ho]at h
   have cap_ge:∀ {e mu k n vs g cap},zcq M w e mu k n vs (some g) cap->n<=cap:=by
    intro e mu k n vs g cap hA
    rcases hA.own.2 with⟨hv,_⟩|⟨g',cap',cur,hv,_,_,hc,_⟩
    .simp [yP]at hv
    .simp [yP]at hv;omega
   cases o with
   | cells cs=>cases h
   | bcv _ _=>cases h
   | bldr _ _=>cases h
   | raw _=>cases h
   | mp _ _=>cases h
   | barr e mu l=>
    cases mu with
    | true=>cases h
    | false=>
     cases h
     obtain⟨a2,cap2,hg',hA⟩:=hs.ob id _ ho
     rw[hg]at hg';cases hg'
     cases ad with
     | none=>
      have h0:=hA.none
      have hl:l=[]:=List.eq_nil_of_length_eq_zero h0.1
      subst hl
      rw[h0.2]
      exact .p _ _ .bytesNil
     | some g=>
      refine .p _ _ (.bytes l g 0 cap hA.len (cap_ge hA) fun i c hc=>?_)
      have:=hA.mem g rfl
      simp only[Bool.false_eq_true,if_false]at this
      rw[Nat.zero_add,this i,List.getElem?_map,hc];rfl
   | larr e mu k' R=>
    cases mu with
    | true=>cases h
    | false=>
     cases h
     obtain⟨a2,cap2,vs,hg',hv,hA⟩:=hs.ob id _ ho
     rw[hg]at hg';cases hg'
     cases ad with
     | none=>
      have h0:=hA.none
      obtain⟨h1,rfl⟩:=h0
      rw[h1]
      exact .p _ _ (.listNil _ _ h1)
     | some g=>
      have hmem:=hA.mem g rfl
      simp only[Bool.false_eq_true,if_false]at hmem
      refine .p _ _ (.list _ R g 0 cap (fun i j=>vs.getD (i*k+j) undef) hA.len (cap_ge hA) (fun i j hi hj=>?_) (fun i j hi hj=>?_))
      .obtain ⟨u,hu,_⟩:=hv i j hi hj
       rw[Nat.zero_add,hmem,hu,List.getD_eq_getElem?_getD,hu];rfl
      .obtain ⟨u,hu,hp⟩:=hv i j hi hj
       rw[List.getD_eq_getElem?_getD,hu];exact hp
 | _=>cases h
theorem zg9(hs:StG C γ M s a w){x z:AV}(h:zeN s.ob x=some z){v:Value}(hx:ARel γ M x v):ARel γ0 M z v:=by
 cases x with
 | agg cs=>
  obtain⟨zs,hz,he⟩:=map_some h
  cases he
  obtain⟨vs,rfl,hsz,hr⟩:=hx.agg_inv
  obtain⟨h1,h2⟩:=zaX hz
  refine .agg _ _ (by omega) fun i hi=>?_
  have hi':i<cs.length:=by omega
  obtain⟨y,hy,hf⟩:=h2 i _ (List.getElem?_eq_getElem hi')
  have:=hr i hi'
  rw[List.getD_eq_getElem?_getD,List.getElem?_eq_getElem hi']at this
  rw[List.getD_eq_getElem?_getD,hy]
  exact yR hs hf this
 | clo fn fs cs=>
  have part:∀ {l zs:List AV} {vs:Array Value},zx (zbT s.ob) l=some zs->(∀ i,i<l.length->ARel γ M (l.getD i .any) (vs.getD i undef))->zs.length=l.length/\∀ i,i<zs.length->ARel γ0 M (zs.getD i .any) (vs.getD i undef):=by
   intro l zs vs hz hr
   obtain⟨h1,h2⟩:=zaX hz
   refine⟨by omega,fun i hi=>?_⟩
   have hi':i<l.length:=by omega
   obtain⟨y,hy,hf⟩:=h2 i _ (List.getElem?_eq_getElem hi')
   have:=hr i hi'
   rw[List.getD_eq_getElem?_getD,List.getElem?_eq_getElem hi']at this
   rw[List.getD_eq_getElem?_getD,hy]
   exact yR hs hf this
  simp only[zeN]at h
  split at h
  .rename_i fs' cs' h1 h2
   cases h
   cases hx with
   | clo _ _ _ vf vc hf hc g1 g2=>
    obtain⟨l1,r1⟩:=part h1 g1
    obtain⟨l2,r2⟩:=part h2 g2
    exact .clo _ _ _ _ _ (by omega) (by omega) r1 r2
  .cases h
 | any=>exact yR hs (x:=.any) h hx
 | p q=>exact yR hs (x:=.p _) h hx
 | ref _ _=>exact yR hs (x:=.ref _ _) h hx
 | arr _=>exact yR hs (x:=.arr _) h hx
 | aptr _ _ _=>exact yR hs (x:=.aptr _ _ _) h hx
 | mref _=>exact yR hs (x:=.mref _) h hx
 | tup _=>exact yR hs (x:=.tup _) h hx
 | gd _ _=>exact yR hs (x:=.gd _ _) h hx
theorem zvu(hs:StG C γ M s a w):∀ {xs zs:List AV} {vs:List Value},zx (zeN s.ob) xs=some zs->ARels γ M xs vs->ARels γ0 M zs vs:=by
 intro xs
 induction xs with
 | nil=>intro zs vs h hx;cases h;cases hx;exact .nil
 | cons x xs ih=>
  intro zs vs h hx
  cases hx with
  | cons h1 h2=>
   simp only[zx]at h
   cases hz:zeN s.ob x with
   | none=>rw[hz]at h;cases h
   | some z=>
    cases hr:zx (zeN s.ob) xs with
    | none=>rw[hz,hr]at h;cases h
    | some zs'=>
     rw[hz,hr]at h;cases h
     exact .cons (zg9 hs hz h1) (ih hr h2)
def evC(env:Env)(ob:Nat->Option AObj)(op:Op)(xs:List AV):Option (AV×Option Prop):=
 match op with
 | .call ⟨.value _,_,_⟩=>match xs with
  | .clo (.func f) fs cs::ys=>match zx (zeN ob) (fs++(ys++cs))with
   | some zs=>env f zs
   | none=>none
  | _=>none
 | _=>none
theorem ARels.append{xs ys:List AV}{vs us:List Value}(h:ARels γ M xs vs)(k:ARels γ M ys us):ARels γ M (xs++ys) (vs++us):=by
 induction h with
 | nil=>exact k
 | cons h _ ih=>exact .cons h ih
theorem ARels.of_get:∀ {xs:List AV} {vs:List Value},vs.length=xs.length->(∀ i,i<xs.length->ARel γ M (xs.getD i .any) (vs.getD i undef))->ARels γ M xs vs
 | [],[],_,_=>.nil
 | [],_::_,h,_=>by cases h
 | _::_,[],h,_=>by cases h
 | x::xs,v::vs,h,hr=>.cons (hr 0 (by simp)) (ARels.of_get (by simpa using h) fun i hi=>hr (i+1) (by simpa using hi))
theorem zwl{env:Env}(henv:yQ P env)(hs:StG C γ M s a w)(o:Oper)(hd:yu C.nt o.dst=true){xs:List AV}{r:AV}{ok:Option Prop}
 (h:evC env s.ob o.op xs=some (r,ok)) (hok:okP ok) (hx:ARels γ M xs (o.op.operands.toList.map a.eval)) {next:Act->World->Prop} {Q:Exit->Act->World->Prop}
 (hn:∀ v M' w',ARel γ M' r v->StG C γ M' (zcu s o.dst r) (a.put o.dst v) w'->next (a.put o.dst v) w'):o.wpIn (FW C.rd) 0 P a w next Q:=by
 obtain⟨dst,op,type,pos,after,guard⟩:=o
 dsimp only at hx h hd hn
 cases op <;> simp only[evC,reduceCtorEq]at h
 rename_i c
 obtain⟨callee,args,ts⟩:=c
 cases callee with
 | invoke r m=>cases h
 | builtin b=>cases h
 | value f=>
  dsimp only at h
  have hx':ARels γ M xs (a.eval f::args.toList.map a.eval):=by simpa[Op.operands,Call.operands]using hx
  cases hx' with
  | cons h1 h2=>
   rename_i x ys
   split at h
   .rename_i f' fs cs ys' heq
    cases heq
    split at h
    .rename_i zs hz
     have hcp:=henv f' zs r ok h hok
     generalize hfv:a.eval f=fv at h1
     cases h1 with
     | clo _ _ _ vf vc hf hc g1 g2=>
      have hall:ARels γ M (fs++(ys++cs)) (vf.toList++(args.toList.map a.eval++vc.toList)):=by
       refine(ARels.of_get (by simpa using hf) fun i hi=>?_).append (h2.append (ARels.of_get (by simpa using hc) fun i hi=>?_))
       .have:=g1 i hi;rw[Array.getD_eq_getD_getElem?]at this;simpa[List.getD_eq_getElem?_getD]using this
       .have:=g2 i hi;rw[Array.getD_eq_getD_getElem?]at this;simpa[List.getD_eq_getElem?_getD]using this
      have hz':=zvu hs hz hall
      have hrun0:(execOp a.eval ⟨dst,.call ⟨.value f,args,ts⟩,type,pos,after,guard⟩).run P w=(callFunc f' (vf.toList++(args.toList.map a.eval++vc.toList)).toArray).run P w:=by
       simp only[execOp,resolve,hfv,Deferred.ofValue,Sem.run_bind,Sem.run_pure,Result.andThen_ok,invoke]
       have e:vf++args.map a.eval++vc=(vf.toList++(args.toList.map a.eval++vc.toList)).toArray:=by
        apply Array.ext';simp
       rw[e]
      rcases hcp with⟨hcall,hfn⟩|hext
      .have hC:=hfn M w _ hs.wok hz'
       refine zfA (hrun0.trans (ym hcall _ w)) (hC.mono fun e w' ⟨v,M',he,hle,hnew,hmem,hr,hb⟩=>⟨v,he,?_⟩)
       have hr':ARel γ M' r v:=hr.mono (fun _ _ hx=>by cases hx) (MLe.refl M')
       exact hn v M' w' hr' (hs.put hd hle hb.size (fun b hb'=>⟨hb.block b hb',hnew b hb'⟩) hmem hb.os hb.tape hb.output hr')
      .obtain ⟨v,hv,hr⟩:=hext M w _ hs.wok hz'
       have hr':ARel γ M r v:=hr.mono (fun _ _ hx=>by cases hx) (MLe.refl M)
       refine yk (hrun0.trans hv) ?_
       exact hn v M w hr' (hs.put hd (MLe.refl M) (Nat.le_refl _) (fun b hb'=>⟨rfl,rfl⟩) hs.mem rfl rfl rfl hr')
    .cases h
   .cases h
end Go.Am
/-! One operation;a region. -/
namespace Go.Am
open Go Go.RowKit
variable {P:Program}{γ γ':Nat->Option G}{M M':Mem}{C:Ctx}{s s':S}{a a':Act}{w w':World}
def All:List Prop->Prop
 | []=>True
 | p::r=>p/\All r
theorem All.append{l r:List Prop}(h:All (l++r)):All l/\All r:=by
 induction l with
 | nil=>exact⟨trivial,h⟩
 | cons p l ih=>exact⟨⟨h.1,(ih h.2).1⟩,(ih h.2).2⟩
theorem All.mk{l r:List Prop}(h:All l)(k:All r):All (l++r):=by
 induction l with
 | nil=>exact k
 | cons p l ih=>exact⟨h.1,ih h.2⟩
abbrev Gd:=Option Bool
def Gd.holds:Gd->Prop
 | none=>True
 | some c=>c=true
def ztT(g:Gd)(p:Prop):Prop:=
 match g with
 | none=>p
 | some c=>c=true->p
theorem zmM{g:Gd}{p:Prop}(h:ztT g p)(hg:g.holds):p:=by
 cases g with
 | none=>exact h
 | some c=>exact h hg
def zdB(g:Gd):AV->AV×List Prop
 | .gd c y=>(y,[ztT g (c=true)])
 | x=>(x,[])
def zbS(g:Gd):List AV->List AV×List Prop
 | []=>([],[])
 | x::r=>((zdB g x).1::(zbS g r).1,(zdB g x).2++(zbS g r).2)
def zy(g:Gd)(op:Op)(xs:List AV):List AV×List Prop:=
 match op,xs with
 | .pick _ _ _,x::r=>((zdB g x).1::r,(zdB g x).2)
 | _,xs=>zbS g xs
theorem zkz{g:Gd}{x:AV}{v:Value}(h:ARel γ M x v)(hg:g.holds)(ho:All (zdB g x).2):ARel γ M (zdB g x).1 v:=by
 cases x with
 | gd c y=>exact h.gd_inv (zmM ho.1 hg)
 | _=>exact h
theorem zvp{g:Gd}(hg:g.holds){xs:List AV}{vs:List Value}(h:ARels γ M xs vs):All (zbS g xs).2->ARels γ M (zbS g xs).1 vs:=by
 induction h with
 | nil=>intro _;exact .nil
 | cons h _ ih=>
  intro ho
  have:=All.append ho
  exact .cons (zkz h hg this.1) (ih this.2)
theorem zdo{g:Gd}(hg:g.holds){op:Op}{xs:List AV}{vs:List Value}(h:ARels γ M xs vs)(ho:All (zy g op xs).2):ARels γ M (zy g op xs).1 vs:=by
 unfold zy at *
 split at ho
 .cases h with
  | cons h1 h2=>exact .cons (zkz h1 hg ho) h2
 .exact zvp hg h ho
def zD(ops:Array Oper)(sl:Nat->AV)(o:Oper):Option Gd:=
 match o.guard with
 | none=>some none
 | some (j,want)=>match (ops[j]?).bind (·.dst)with
  | some t=>match sl t with
   | .p (.bool c)=>some (some (match want with|true=>c|false=>!c))
   | .gd c1 (.p (.bool c))=>some (some (c1&&(match want with|true=>c|false=>!c)))
   | _=>none
  | none=>none
theorem zhz{ops:Array Oper}{o:Oper}{g:Gd}(hs:StG C γ M s a w)(h:zD ops s.sl o=some g):
 (g.holds->Region.wanted o (yielded ops a.tmps)=true)/\(¬ g.holds->Region.wanted o (yielded ops a.tmps)=false):=by
 unfold zD at h
 unfold Region.wanted
 cases hg:o.guard with
 | none=>rw[hg]at h;cases h;exact⟨fun _=>rfl,fun hn=>absurd trivial hn⟩
 | some jw=>
  obtain⟨j,want⟩:=jw
  rw[hg]at h
  dsimp only at h ⊢
  cases ht:(ops[j]?).bind (·.dst)with
  | none=>rw[ht]at h;cases h
  | some t=>
   rw[ht]at h
   dsimp only at h
   have hr:=hs.sl t
   have hy:∀ v,a.tmps.getD t undef=v->yielded ops a.tmps j=match v with|.bool b=>some b|_=>none:=by
    intro v hv
    unfold yielded
    rw[ht]
    show(match a.tmps[t]? with|some (.bool b)=>some b|_=>none)=_
    rw[Array.getD_eq_getD_getElem?]at hv
    cases hq:a.tmps[t]? with
    | none=>rw[hq]at hv;rw[<-hv];rfl
    | some u=>rw[hq]at hv;rw[<-hv];cases u <;> rfl
   split at h
   .rename_i c hsl
    cases h
    rw[hsl]at hr
    have:=hy _ hr.bool_inv
    rw[this]
    cases want <;> cases c <;> simp[Gd.holds]
   .rename_i c1 c hsl
    cases h
    rw[hsl]at hr
    cases hr with
    | gd _ _ _ h1 h0=>
     cases c1 with
     | false=>
      have:=hy _ (h0 rfl)
      rw[this]
      simp[Gd.holds,undef]
     | true=>
      have:=hy _ (h1 rfl).bool_inv
      rw[this]
      cases want <;> cases c <;> simp[Gd.holds]
   .cases h
def evV(P:Program)(env:Env)(ob:Nat->Option AObj)(op:Op)(xs:List AV):Option (AV×Option Prop):=
 match evP P op xs with
 | some r=>some r
 | none=>match evL P ob op xs with
  | some r=>some r
  | none=>match op with
   | .build t ps=>zo0 P t (ps.toList.map (·.1)) xs
   | op=>evC env ob op xs
def zuC(g:Gd)(r:AV):AV:=
 match g with
 | none=>r
 | some c=>.gd c r
def oks(g:Gd):Option Prop->List Prop
 | none=>[]
 | some p=>[ztT g p]
def zrN:(e:Ec)->PV->Option (Elt e)
 | .int k,.int k' n=>match zvZ k,zvZ k' with
  | true,true=>some n
  | _,_=>none
 | .bool,.bool b=>some b
 | _,_=>none
theorem zpF{M:Mem}:∀ {e:Ec} {x:PV} {y:Elt e},zrN e x=some y->∀ {v:Value},zF M x v->zF M (cell e y 0) v:=by
 intro e x y h v hv
 unfold zrN at h
 split at h
 .rename_i k k' n
  split at h
  .rename_i h1 h2
   have e1 : k = .i64 := by unfold zvZ at h1; split at h1; · rfl
                            .cases h1
   have e2 : k' = .i64 := by unfold zvZ at h2; split at h2; · rfl
                             .cases h2
   subst e1;subst e2
   cases h;exact hv
  .cases h
 .cases h;exact hv
 .cases h
def zfb(P:Program)(ob:Nat->Option AObj)(t:TypeId):List AV->Option (Nat×AObj×Option Prop)
 | [.mref id,.p (.int .i64 k),.p x]=>match ob id,zsx P t with
  | some (.mp e l),some _=>match zrN e x with
   | some y=>some (id,.mp e (l++[(k,y)]),some (zgo l k=false))
   | none=>none
  | _,_=>none
 | _=>none
theorem zak.push{e:Ec}{x:MapEntry}{y:Int×Elt e}(h1:x.key=.int .i64 y.1)(h2:zF M (cell e y.2 0) x.val):∀ {es:List MapEntry} {l:List (Int×Elt e)},zak M e es l->zak M e (es++[x]) (l++[y])
 | [],[],_=>⟨h1,h2,trivial⟩
 | _::_,_::_,h=>⟨h.1,h.2.1,zak.push h1 h2 h.2.2⟩
theorem zlE(hs:StG C γ M s a w){t id:Nat}{x y z:AV}{o:AObj}{ok:Option Prop}(h:zfb P s.ob t [x,y,z]=some (id,o,ok))(hok:okP ok){u v v2:Value}
 (hx:ARel γ M x u) (hy:ARel γ M y v) (hz:ARel γ M z v2):
 ∃ w',(Instr.mapUpdate t u v v2).run P w=.ok () w'/\StG C γ M { s with ob:=upd s.ob id (some o) } a w':=by
 unfold zfb at h
 split at h
 .rename_i id' k px heq
  cases heq
  split at h
  .rename_i e l q ho hT
   split at h
   .rename_i y1 hy1
    cases h
    obtain⟨K,kq,i,zv,hu,hk,_,_,_⟩:=znc (E:=q.1) (e:=q.2) hT
    cases hx with|mref _ b hg=>
    cases hy.p_inv
    obtain⟨b',es,cl,hg',hh,hr,hm⟩:=hs.ob id _ ho
    rw[hg]at hg';cases hg'
    have hok:zgo l k=false:=hok
    have hlt:b<w.heap.size:=(Array.getElem?_eq_some_iff.1 hh).1
    have hf:Instr.findNow (.int kq) (.int .i64 k) es.toList 0=some none:=by
     rcases zgO (q:=kq) (k:=k) (i:=0) hr with⟨_,_,g3⟩|⟨g1,_⟩
     .exact g3
     .rw [hok]at g1;cases g1
    refine⟨{ w with heap:=w.heap.setIfInBounds b (.map (es.push { key:=.int .i64 k,val:=v2,born:=cl }) (cl+1)) },?_,?_⟩
    .simp only[Instr.mapUpdate,Sem.run_bind,run_underlying hu,Result.andThen_ok,zbp hh,show(Instr.checkKey false 10000 K (.int .i64 k)).run P w=.ok () w from zcr hk false k w 9999,zcU hk hf]
     simp[setObj,Sem.run,hh]
    .refine hs.write ho hg (b:=b) rfl rfl rfl rfl (by simp) (fun c hc=>?_) hm ?_
     .simp [Ne.symm hc]
     .refine ⟨b,es.push { key:=.int .i64 k,val:=v2,born:=cl },cl+1,hg,?_,?_,hm⟩
      .simp [hlt]
      .rw [Array.toList_push]
       exact zak.push rfl (zpF hy1 hz.p_inv) hr
   .cases h
  .cases h
 .cases h
def evE(P:Program)(s:S)(o:Oper)(xs:List AV):Option (S×Option Prop):=
 match o.op with
 | .store t _ _=>match o.dst with
  | none=>(zdv P s.ob t xs).map fun r=>({ s with ob:=upd s.ob r.1 (some r.2.1) },r.2.2)
  | some _=>none
 | .mapUpdate t _ _ _=>match o.dst with
  | none=>(zfb P s.ob t xs).map fun r=>({ s with ob:=upd s.ob r.1 (some r.2.1) },r.2.2)
  | some _=>none
 | .call ⟨.builtin .append,_,ts⟩=>match ts[0]?,ts[1]?,o.dst,xs with
  | some t,some tx,some d,[x,y]=>match s.us d,ts.size with
   | false,2=>(zaz P s.ob t tx [x,y]).map fun r=>(yO s d r.2.1 r.1,r.2.2)
   | _,_=>none
  | _,_,_,_=>none
 | op=>match evB P op xs,o.dst with
  | some (ob,ok),some d=>match s.us d,s.ob d with
   | false,none=>some (yq s d ob,ok)
   | _,_=>none
  | _,_=>none
def yh(P:Program)(env:Env)(nt:Nat)(ops:Array Oper)(o:Oper)(s:S):Option (S×List Prop):=
 match zD ops s.sl o,yu nt o.dst with
 | some g,true=>
  match evV P env s.ob o.op (zy g o.op (o.op.operands.toList.map (aev s.sl))).1 with
  | some (r,ok)=>some (zcu s o.dst (zuC g r),(zy g o.op (o.op.operands.toList.map (aev s.sl))).2++oks g ok)
  | none=>match g with
   | some _=>none
   | none=>(evE P s o (zy none o.op (o.op.operands.toList.map (aev s.sl))).1).map fun r=>(r.1,(zy none o.op (o.op.operands.toList.map (aev s.sl))).2++oks none r.2)
 | _,_=>none
theorem lits(a:Act):Lits a.eval:=fun _=>rfl
theorem zf1{env:Env}(henv:yQ P env)(hs:StG C γ M s a w)(o:Oper)(hd:yu C.nt o.dst=true){xs:List AV}{r:AV}{ok:Option Prop}
 (h:evV P env s.ob o.op xs=some (r,ok)) (hok:okP ok) (hx:ARels γ M xs (o.op.operands.toList.map a.eval)) {next:Act->World->Prop} {Q:Exit->Act->World->Prop}
 (hn:∀ v M' w',ARel γ M' r v->StG C γ M' (zcu s o.dst r) (a.put o.dst v) w'->next (a.put o.dst v) w'):o.wpIn (FW C.rd) 0 P a w next Q:=by
 have val:∀ v,(execOp a.eval o).run P w=.ok (.value v) w->ARel γ M r v->o.wpIn (FW C.rd) 0 P a w next Q:=fun v hv hr=>by
  refine yk hv ?_
  exact hn v M w hr (hs.put hd (MLe.refl M) (Nat.le_refl _) (fun b _=>⟨rfl,rfl⟩) hs.mem rfl rfl rfl hr)
 unfold evV at h
 cases h1:evP P o.op xs with
 | some q=>
  rw[h1]at h;cases h
  obtain⟨v,hv,hr⟩:=zwh (P:=P) o a.eval (lits a) h1 hok hx w
  exact val v hv hr
 | none=>
  rw[h1]at h
  cases h2:evL P s.ob o.op xs with
  | some q=>
   rw[h2]at h;cases h
   obtain⟨v,hv,hr⟩:=zwi (P:=P) hs o h2 hok hx
   exact val v hv hr
  | none=>
   rw[h2]at h
   dsimp only at h
   split at h
   .rename_i t ps hop
    rw[hop]at hx
    have hx':ARels γ M xs (ps.toList.map fun p=>a.eval p.2):=by simpa[Op.operands,Function.comp_def]using hx
    obtain⟨v,hv,hr⟩:=zmw (P:=P) h hx' w
    refine val v ?_ hr
    obtain⟨dst,op,type,pos,after,guard⟩:=o
    dsimp only at hop
    subst hop
    simp[execOp,hv]
   .exact zwl henv hs o hd h hok hx hn
theorem zdX(hs:StG C γ M s a w)(o:Oper)(hd:yu C.nt o.dst=true){xs:List AV}{s':S}{ok:Option Prop}
 (h:evE P s o xs=some (s',ok)) (hok:okP ok) (hx:ARels γ M xs (o.op.operands.toList.map a.eval)) {next:Act->World->Prop} {Q:Exit->Act->World->Prop}
 (hn:∀ γ' M' a' w',StG C γ' M' s' a' w'->next a' w'):o.wpIn (FW C.rd) 0 P a w next Q:=by
 unfold evE at h
 obtain⟨dst,op,type,pos,after,guard⟩:=o
 dsimp only at hx h hd
 split at h
 .rename_i t x y
  cases dst with
  | some d=>cases h
  | none=>
   dsimp only at h
   obtain⟨⟨id,ob',ok'⟩,hst,he⟩:=map_some h
   cases he
   simp only[Op.operands,List.map_cons,List.map_nil]at hx
   cases hx with
   | cons h1 hx=>cases hx with
    | cons h2 hx=>cases hx with
     | nil=>
      obtain⟨w',hrun,hst'⟩:=zms (P:=P) hs hst hok h1 h2
      have e:(execOp a.eval ⟨none,.store t x y,type,pos,after,guard⟩).run P w=.ok .skip w':=by
       simp only[execOp,Sem.run_bind,hrun,Result.andThen_ok];rfl
      refine zbW e ?_
      exact hn _ _ _ _ hst'
 .rename_i t x y z
  cases dst with
  | some d=>cases h
  | none=>
   dsimp only at h
   obtain⟨⟨id,ob',ok'⟩,hst,he⟩:=map_some h
   cases he
   simp only[Op.operands,List.map_cons,List.map_nil]at hx
   cases hx with
   | cons h1 hx=>cases hx with
    | cons h2 hx=>cases hx with
     | cons h3 hx=>cases hx with
      | nil=>
       obtain⟨w',hrun,hst'⟩:=zlE (P:=P) hs hst hok h1 h2 h3
       have e:(execOp a.eval ⟨none,.mapUpdate t x y z,type,pos,after,guard⟩).run P w=.ok .skip w':=by
        simp only[execOp,Sem.run_bind,hrun,Result.andThen_ok];rfl
       refine zbW e ?_
       exact hn _ _ _ _ hst'
 .rename_i args ts
  split at h
  .rename_i t tx d x y ht htx
   split at h
   .rename_i hus hsz
    obtain⟨⟨ob',old,ok'⟩,hst,he⟩:=map_some h
    cases he
    have hx':ARels γ M [x,y] (args.toList.map a.eval):=by simpa[Op.operands,Call.operands]using hx
    cases args with
    | mk al=>
    dsimp only at hx'
    generalize hvs:al.map a.eval=vs at hx'
    have hal:(List.toArray al).map a.eval=vs.toArray:=by rw[<-hvs];simp
    cases hx' with
    | cons h1 hx=>cases hx with
     | cons h2 hx=>cases hx with
      | nil=>
       rename_i u v
       obtain⟨r,w',γ',M',hrun,hst'⟩:=zlG (P:=P) (ty:=type) hs hd hus hst hok h1 h2
       have hts:ts=#[t,tx]:=by
        apply Array.ext'
        match hq:ts,hsz with
        | ⟨[p,q]⟩,_=>simp[]at ht htx;simp[ht,htx]
       have e:(execOp a.eval ⟨some d,.call ⟨.builtin .append,⟨al⟩,ts⟩,type,pos,after,guard⟩).run P w=.ok (.value r) w':=by
        simp only[execOp,resolve,Sem.run_bind,Sem.run_pure,Result.andThen_ok,invoke,builtin,hal,hts,hrun]
       refine yk e ?_
       exact hn _ _ _ _ hst'
   .cases h
  .cases h
 .rename_i hne1 hne2
  split at h
  .rename_i ob' ok' d hB
   split at h
   .rename_i hus hob
    cases h
    obtain⟨v,w',γ',M',hrun,hst'⟩:=zf2 (P:=P) hs ⟨some d,op,type,pos,after,guard⟩ rfl hd hus hB hok hx
    refine yk hrun ?_
    exact hn _ _ _ _ hst'
   .cases h
  .cases h
theorem zfn{env:Env}(henv:yQ P env){ops:Array Oper}{o:Oper}{ps:List Prop}(h:yh P env C.nt ops o s=some (s',ps))(hps:All ps)
 (hs:St C s a w) {next:Act->World->Prop} {Q:Exit->Act->World->Prop} (hn:∀ a' w',St C s' a' w'->next a' w'):
 if Region.wanted o (yielded ops a.tmps) then o.wpIn (FW C.rd) 0 P a w next Q else next (a.put o.dst undef) w:=by
 obtain⟨γ,M,hs⟩:=hs
 unfold yh at h
 split at h
 .rename_i g hg hd
  have hargs:ARels γ M (o.op.operands.toList.map (aev s.sl)) (o.op.operands.toList.map a.eval):=ARels.map (zdz hs.sl) _
  obtain⟨hw1,hw2⟩:=zhz hs hg
  split at h
  .rename_i r ok hV
   cases h
   obtain⟨p1,p2⟩:=All.append hps
   by_cases hh:g.holds
   .rw [if_pos (hw1 hh)]
    have hok:okP ok:=by
     cases ok with
     | none=>trivial
     | some p=>exact zmM p2.1 hh
    refine zf1 henv hs o hd hV hok (zdo hh hargs p1) fun v M' w' hr hst=>hn _ _ ⟨γ,M',?_⟩
    cases g with
    | none=>exact hst
    | some c=>
     refine { hst with sl:=fun t=>?_ }
     have h1:=hst.sl t
     show ARel γ M' (zX s.sl o.dst (.gd c r) t) _
     have h1':ARel γ M' (zX s.sl o.dst r t) ((a.put o.dst v).tmps.getD t undef):=h1
     cases hdst:o.dst with
     | none=>rw[hdst]at h1';exact h1'
     | some d=>
      rw[hdst]at h1'
      by_cases e:t=d
      .subst e
       simp only[zX]at h1' ⊢
       rw[zc]at h1' ⊢
       exact .gd c r _ (fun _=>h1') (fun hc=>absurd (hh.symm.trans hc) (by simp))
      .simp only[zX]at h1' ⊢
       rw[zh _ _ e]at h1' ⊢
       exact h1'
   .rw [if_neg (by rw[hw2 hh];simp)]
    cases g with
    | none=>exact absurd trivial hh
    | some c=>
     have hc:c=false:=by cases c with|false=>rfl|true=>exact absurd rfl hh
     subst hc
     refine hn _ _ ⟨γ,M,hs.put hd (MLe.refl M) (Nat.le_refl _) (fun b _=>⟨rfl,rfl⟩) hs.mem rfl rfl rfl (.gd false r undef (fun e=>by cases e) fun _=>rfl)⟩
  .split at h
   .cases h
   .rw [if_pos (hw1 trivial)]
    obtain⟨⟨s2,ok⟩,hE,he⟩:=map_some h
    cases he
    obtain⟨p1,p2⟩:=All.append hps
    have hok:okP ok:=by
     cases ok with
     | none=>trivial
     | some p=>exact p2.1
    exact zdX hs o hd hE hok (zdo (g:=none) trivial hargs p1) fun γ' M' a' w' hst=>hn _ _ ⟨γ',M',hst⟩
 .cases h
end Go.Am
/-! Regions, statements, functions. -/
namespace Go.Am
open Go Go.RowKit
variable {P:Program}{γ γ':Nat->Option G}{M M':Mem}{C:Ctx}{s s':S}{a a':Act}{w w':World}
def zl2(P:Program)(env:Env)(nt:Nat)(ops:Array Oper):List Nat->S->Option (S×List Prop)
 | [],s=>some (s,[])
 | i::r,s=>match ops[i]? with
  | none=>none
  | some o=>match yh P env nt ops o s with
   | none=>none
   | some (s1,p1)=>match zl2 P env nt ops r s1 with
    | none=>none
    | some (s2,p2)=>some (s2,p1++p2)
theorem ztw{env:Env}(henv:yQ P env){ops:Array Oper}{Q:Exit->Act->World->Prop}:∀ (l:List Nat) {s s':S} {ps:List Prop} {a:Act} {w:World},
 zl2 P env C.nt ops l s=some (s',ps)->All ps->St C s a w->(∀ a' w',St C s' a' w'->Q .normal a' w')->wpOpsIn (FW C.rd) 0 P ops Q l a w:=by
 intro l
 induction l with
 | nil=>intro s s' ps a w h hp hs hq;cases h;exact hq a w hs
 | cons i r ih=>
  intro s s' ps a w h hp hs hq
  simp only[zl2]at h
  simp only[wpOpsIn]
  cases ho:ops[i]? with
  | none=>rw[ho]at h;cases h
  | some o=>
   rw[ho]at h
   dsimp only at h ⊢
   cases h1:yh P env C.nt ops o s with
   | none=>rw[h1]at h;cases h
   | some q=>
    obtain⟨s1,p1⟩:=q
    rw[h1]at h
    dsimp only at h
    cases h2:zl2 P env C.nt ops r s1 with
    | none=>rw[h2]at h;cases h
    | some q=>
     obtain⟨s2,p2⟩:=q
     rw[h2]at h
     cases h
     obtain⟨hp1,hp2⟩:=All.append hp
     have:=zfn henv h1 hp1 hs (next:=wpOpsIn (FW C.rd) 0 P ops Q r) (Q:=Q) fun a' w' hs'=>ih h2 hp2 hs' hq
     split
     .rename_i hw;rw[if_pos hw]at this;exact this
     .rename_i hw;rw[if_neg hw]at this;exact⟨fun _ _=>trivial,this⟩
theorem St.drew(h:St C s a w):St C s a { w with drawn:=w.drawn+1 }:=by
 obtain⟨γ,M,h⟩:=h
 exact⟨γ,M,h.sl,(fun id o ho=>(h.ob id o ho).keep (GLe.refl γ) (MLe.refl M) fun _ _ _ _=>⟨rfl,rfl⟩),h.us,h.sep,h.lo,⟨fun b o v hv=>h.mem b o v hv,h.mem.good⟩,h.le,h.new,⟨h.fr.os,h.fr.tape,h.fr.output,h.fr.size,h.fr.block,h.fr.tab⟩,h.df,h.nt,h.gl⟩
def T(P:Program)(C:Ctx)(c:Code)(s:S)(Q:Exit->S->Prop):Prop:=
 ∀ a w,St C s a w->c.wpIn (FW C.rd) 0 P (fun e a' w'=>∃ s',Q e s'/\St C s' a' w') a w
def Sub(C:Ctx)(s s':S):Prop:=∀ a w,St C s a w->St C s' a w
theorem T.conseq{c:Code}{Q R:Exit->S->Prop}(h:T P C c s Q)(k:∀ e s',Q e s'->R e s'):T P C c s R:=
 fun a w hs=>wpIn_mono (h a w hs) fun e a' w' ⟨s',hq,hs'⟩=>⟨s',k e s' hq,hs'⟩
theorem T.weaken{c:Code}{Q:Exit->S->Prop}(h:T P C c s' Q)(k:Sub C s s'):T P C c s Q:=fun a w hs=>h a w (k a w hs)
theorem zAq{env:Env}(henv:yQ P env){id:Nat}{ops:Array Oper}{Q:Exit->S->Prop}{ps:List Prop}
 (h:zl2 P env C.nt ops (List.range ops.size) s=some (s',ps)) (hp:All ps) (hq:Q .normal s'):T P C (.region id ops false) s Q:=
 fun _ _ hs=>wpIn_region (ztw henv _ h hp hs fun _ _ hs'=>⟨s',hq,hs'⟩)
def zwO(K:S->Prop)(Q:Exit->S->Prop):Exit->S->Prop
 | .normal,s=>K s
 | e,s=>Q e s
def zgc(id:Nat)(Q:Exit->S->Prop):Exit->S->Prop
 | .exit id',s=>if id'=id then Q .normal s else Q (.exit id') s
 | e,s=>Q e s
theorem zDE{x y:Code}{Q:Exit->S->Prop}(h:T P C x s (zwO (fun s'=>T P C y s' Q) Q)):T P C (.seq x y) s Q:=by
 intro a w hs
 refine wpIn_seq (wpIn_mono (h a w hs) fun e a' w' ⟨s',hq,hs'⟩=>?_)
 cases e <;> first
  | exact hq a' w' hs'
  | exact⟨s',hq,hs'⟩
theorem zAt{c:Operand}{x y:Code}{Q:Exit->S->Prop}{b:Bool}(hc:aev s.sl c=.p (.bool b))(h1:b=true->T P C x s Q)(h2:b=false->T P C y s Q):T P C (.cond c x y) s Q:=by
 intro a w hs
 obtain⟨γ,M,hg⟩:=hs
 have:=zdz hg.sl c
 rw[hc]at this
 exact wpIn_cond_split this.bool_inv (fun hb=>h1 hb a w ⟨γ,M,hg⟩) (fun hb=>h2 hb a w ⟨γ,M,hg⟩)
theorem zu8{id:Nat}{c:Code}{Q:Exit->S->Prop}(h:T P C c s (zgc id Q)):T P C (.block id c) s Q:=by
 intro a w hs
 refine wpIn_block (wpIn_mono (h a w hs) fun e a' w' ⟨s',hq,hs'⟩=>?_)
 cases e <;> first
  | exact⟨s',hq,hs'⟩
  | (simp only[Exit.inBlock,zgc]at *;split <;> rename_i hi <;> simp only[hi,if_true,if_false]at hq <;> exact⟨s',hq,hs'⟩)
theorem zAp{Q:Exit->S->Prop}(h:Q .normal s):T P C .skip s Q:=fun _ _ hs=>wpIn_skip ⟨s,h,hs⟩
theorem zCU{l:Nat}{Q:Exit->S->Prop}(h:Q .normal s):T P C (.label l) s Q:=fun _ _ hs=>wpIn_label ⟨s,h,hs⟩
theorem zAs{id:Nat}{Q:Exit->S->Prop}(h:Q (.exit id) s):T P C (.exit id) s Q:=fun _ _ hs=>wpIn_exit ⟨s,h,hs⟩
theorem zDF{Q:Exit->S->Prop}(h:Q .ret s):T P C .ret s Q:=fun _ _ hs=>wpIn_ret ⟨s,h,hs⟩
theorem zAr{c:Code}{Q:Exit->S->Prop}(R:Nat->S->Prop)
 (round:∀ n s,R n s->T P C c s (zwO (fun s'=>∃ m s2,m<n/\R m s2/\Sub C s' s2) Q)) (n:Nat) (h:R n s):T P C (.loop c) s Q:=by
 intro a w hs
 refine zbu (fun n a w=>∃ s,R n s/\St C s a w) (fun n a w ⟨s,hR,hs⟩=>wpIn_mono (round n s hR a w hs) fun e a' w' ⟨s',hq,hs'⟩=>?_) n ⟨s,h,hs⟩
 cases e <;> first
  | (obtain⟨m,s2,hm,hR2,hsub⟩:=hq;exact⟨m,hm,s2,hR2,hsub a' w' hs'⟩)
  | exact⟨s',hq,hs'⟩
def at_:Code->List Nat->Code
 | c,[]=>c
 | .seq x y,i::p=>match i with|0=>at_ x p|_=>at_ y p
 | .cond _ x y,i::p=>match i with|0=>at_ x p|_=>at_ y p
 | .block _ x,_::p=>at_ x p
 | .loop x,_::p=>at_ x p
 | .scope x,_::p=>at_ x p
 | c,_::_=>c
def zHa:Code->Array Oper
 | .region _ ops _=>ops
 | _=>#[]
def zE6:Code->Operand
 | .cond c _ _=>c
 | _=>.const (.bool false)
def zeB(P:Program)(s:S):ResultVar->Option AV
 | .tmp t=>zeN s.ob (s.sl t)
 | .cell t ty=>match zct P s.ob ty [s.sl t]with
  | some (r,none)=>zeN s.ob r
  | _=>none
def zbf(P:Program)(s:S)(rs:List ResultVar):Option AV:=
 match zx (zeB P s) rs with
 | some [r]=>some r
 | some l=>some (.tup l)
 | none=>none
def zhe(tmps:Array Value):ResultVar->Sem Value
 | .tmp t=>pure (tmps.getD t undef)
 | .cell t ty=>do loadVar ty (<-asAddr (tmps.getD t undef))
theorem zee(fn:Func)(tmps:Array Value):results fn tmps=(do let vs <-fn.results.mapM (zhe tmps);pure (if h:vs.size=1 then vs[0] else .tuple vs)):=by
 have e:(fun x=>match x with|.tmp t=>pure (tmps.getD t undef)|.cell a t=>do loadVar t (<-asAddr (tmps.getD a undef)))=zhe tmps:=by
  funext x;cases x <;> rfl
 rw[<-e]
 rfl
theorem zcB{ty:TypeId}{v u:Value}(h:(Instr.loadAt ty v).run P w=.ok u w):(do loadVar ty (<-asAddr v):Sem Value).run P w=.ok u w:=by
 unfold Instr.loadAt at h
 cases v with
 | pointer p=>
  cases p with
  | some ad=>exact h
  | none=>rw[Sem.run_bind]at h;simp[Instr.sureAddr]at h
 | _=>rw[Sem.run_bind]at h;simp[Instr.sureAddr]at h
theorem zmC(hs:StG C γ M s a w){rv:ResultVar}{r:AV}(h:zeB P s rv=some r):
 ∃ v,(zhe a.tmps rv).run P w=.ok v w/\ARel γ0 M r v:=by
 cases rv with
 | tmp t=>exact⟨_,rfl,zg9 hs h (hs.sl t)⟩
 | cell t ty=>
  simp only[zeB]at h
  split at h
  .rename_i r' hl
   obtain⟨u,hu,hr⟩:=zes (P:=P) hs hl trivial (hs.sl t)
   exact⟨u,zcB hu,zg9 hs h hr⟩
  .cases h
theorem zdg(hs:StG C γ M s a w)(fn:Func){r:AV}(h:zbf P s fn.results.toList=some r):
 ∃ v,(results fn a.tmps).run P w=.ok v w/\ARel γ0 M r v:=by
 have key:∀ (l:List ResultVar) (rs:List AV),zx (zeB P s) l=some rs->∃ vs:List Value,
  (l.mapM (zhe a.tmps)).run P w=.ok vs w/\ARels γ0 M rs vs:=by
  intro l
  induction l with
  | nil=>intro rs h;cases h;exact⟨[],rfl,.nil⟩
  | cons x l ih=>
   intro rs h
   simp only[zx]at h
   cases hx:zeB P s x with
   | none=>rw[hx]at h;cases h
   | some y=>
    cases hl:zx (zeB P s) l with
    | none=>rw[hx,hl]at h;cases h
    | some ys=>
     rw[hx,hl]at h;cases h
     obtain⟨v,hv,hr⟩:=zmC (P:=P) hs hx
     obtain⟨vs,hvs,hrs⟩:=ih ys hl
     refine⟨v::vs,?_,.cons hr hrs⟩
     rw[List.mapM_cons]
     simp only[Sem.run_bind,hv,Sem.run_pure,Result.andThen_ok,hvs]
 unfold zbf at h
 cases hl:zx (zeB P s) fn.results.toList with
 | none=>rw[hl]at h;cases h
 | some rs=>
  obtain⟨vs,hvs,hrs⟩:=key _ _ hl
  have hm:(fn.results.mapM (zhe a.tmps)).run P w=.ok vs.toArray w:=by
   rw[Array.mapM_eq_mapM_toList,Sem.run_map,hvs];rfl
  have hres:(results fn a.tmps).run P w=.ok (if h:vs.toArray.size=1 then vs.toArray[0] else .tuple vs.toArray) w:=by
   rw[zee,Sem.run_bind,hm]
   rfl
  rw[hl]at h
  refine⟨_,hres,?_⟩
  have hlen:=hrs.length
  split at h
  .rename_i r' heq
   cases heq;cases h
   cases hrs with
   | cons h1 h2=>cases h2 with|nil=>simpa using h1
  .rename_i l hne heq
   cases heq;cases h
   have hn1:vs.length≠1:=by
    intro e
    match rs,hlen with
    | [r],_=>exact hne r rfl
    | [],hl0=>simp at hl0;rw[hl0]at e;cases e
    | _::_::_,hl0=>simp at hl0;omega
   rw[dif_neg (by simpa using hn1)]
   refine .tup _ _ (by simp[hlen]) fun i hi=>?_
   have:=hrs.get i hi
   simpa[Array.getD_eq_getD_getElem?,List.getD_eq_getElem?_getD]using this
  .rename_i heq;cases heq
def zmY(args:List AV):S:={ sl:=fun i=>args.getD i .any,ob:=fun _=>none,us:=fun _=>false }
def Qfn(P:Program)(rs:List ResultVar)(r:AV):Exit->S->Prop
 | .normal,s=>zbf P s rs=some r
 | .ret,s=>zbf P s rs=some r
 | _,_=>False
theorem zwQ{f:FuncId}{fn:Func}{c:Code}{args:List AV}{r:AV}(hf:P.funcs[f]?=some fn)(hb:fn.body=some c)(hn:args.length<=fn.ntmps)
 (h:∀ C:Ctx,C.nt=fn.ntmps->C.g0=γ0->T P C c (zmY args) (Qfn P fn.results.toList r)):FnP P f args r:=by
 intro M w vs hM hvs
 let C:Ctx:={ w0:=w,M0:=M,own:=fun _=>False,nt:=fn.ntmps,g0:=γ0 }
 have hlen:=hvs.length
 have hst:St C (zmY args) { tmps:=vs.toArray++Array.replicate (fn.ntmps-vs.toArray.size) undef,defers:=[] } w:=by
  refine⟨γ0,M,?_,?_,fun _ _=>rfl,?_,?_,hM.toMOk,MLe.refl M,fun _ _ _=>rfl,⟨rfl,rfl,rfl,Nat.le_refl _,fun _ _ _=>rfl,hM.tabs,fun _ h=>h.elim⟩,rfl,?_,GLe.refl γ0⟩
  .intro t
   show ARel γ0 M (args.getD t .any) _
   by_cases ht:t<args.length
   .have:=hvs.get t ht
    have e:(vs.toArray++Array.replicate (fn.ntmps-vs.toArray.size) undef).getD t undef=vs.getD t undef:=by
     rw[Array.getD_eq_getD_getElem?,Array.getElem?_append_left (by simp;omega)]
     simp[List.getD_eq_getElem?_getD]
    rw[e];exact this
   .have e:args.getD t .any=.any:=by rw[List.getD_eq_getElem?_getD,List.getElem?_eq_none (by omega)];rfl
    rw[e];exact .any _
  .intro id o ho;cases ho
  .intro id id' g g' b h1;exact absurd rfl h1
  .intro id g b h1;exact absurd rfl h1
  .simp [C];omega
 refine calls_of_wp hf hb (wpIn_wide (n:=0) |>.1 <| wpIn_mono (h C rfl rfl _ w hst) fun e a' w' ⟨s',hq,γ',M',hs'⟩=>?_)
 have fin:zbf P s' fn.results.toList=some r->a'.defers=[]/\∃ v,(results fn a'.tmps).run P w'=.ok v w'/\
  ∃ u M',Ending.returned v=.returned u/\MLe M M'/\(∀ b,b<w.heap.size->M' b=M b)/\MOk M' w'/\ARel γ0 M' r u/\Below w.heap.size w w':=by
  intro hr
  obtain⟨v,hv,hrel⟩:=zdg hs' fn hr
  exact⟨hs'.df,v,hv,v,M',rfl,hs'.le,fun b hb=>hs'.new b hb (fun h=>h),hs'.mem,hrel,⟨hs'.fr.os,hs'.fr.tape,hs'.fr.output,hs'.fr.size,fun b hb=>hs'.fr.block b hb (fun h=>h)⟩⟩
 cases e with
 | normal=>exact fin hq
 | ret=>exact fin hq
 | _=>exact hq.elim
end Go.Am
/-! States written out;steps from one to the next. -/
namespace Go.Am
open Go Go.RowKit
variable {P:Program}{γ γ':Nat->Option G}{M M':Mem}{C:Ctx}{s s':S}{a a':Act}{w w':World}
def look{α:Type}(t:Nat)(d:α):List (Nat×α)->α
 | []=>d
 | p::r=>match Nat.beq t p.1 with|true=>p.2|false=>look t d r
def ze{α:Type}(t:Nat):List (Nat×α)->Option α
 | []=>none
 | p::r=>match Nat.beq t p.1 with|true=>some p.2|false=>ze t r
def mkS(l:List (Nat×AV))(o:List (Nat×AObj)):S:=
 { sl:=fun t=>look t .any l,ob:=fun i=>ze i o,us:=fun i=>(ze i o).isSome }
theorem zqr{α:Type}{d:α}:∀ {l:List (Nat×α)} {t:Nat},(∃ p ∈ l,p.1=t/\look t d l=p.2)\/look t d l=d
 | [],t=>.inr rfl
 | p::r,t=>by
  unfold look
  cases h:Nat.beq t p.1 with
  | true=>exact .inl ⟨p,by simp,(Nat.eq_of_beq_eq_true h).symm,rfl⟩
  | false=>
   rcases zqr (d:=d) (l:=r) (t:=t)with⟨q,hq,h1,h2⟩|h2
   .exact .inl ⟨q,by simp[hq],h1,h2⟩
   .exact .inr h2
theorem zaD{α:Type}:∀ {l:List (Nat×α)} {t:Nat} {x:α},ze t l=some x->(t,x) ∈ l
 | [],t,x,h=>by cases h
 | p::r,t,x,h=>by
  unfold ze at h
  cases hb:Nat.beq t p.1 with
  | true=>rw[hb]at h;cases h;rw[Nat.eq_of_beq_eq_true hb];simp
  | false=>rw[hb]at h;exact List.mem_cons_of_mem _ (zaD h)
inductive zbG(ren:Nat->Option Nat):AV->AV->Prop
 | any (x:AV):zbG ren x .any
 | p (q:PV):zbG ren (.p q) (.p q)
 | pv (q q':PV) (h:∀ M v,zF M q v->zF M q' v):zbG ren (.p q) (.p q')
 | ref (id old off:Nat) (h:ren id=some old):zbG ren (.ref old off) (.ref id off)
 | arr (id old:Nat) (h:ren id=some old):zbG ren (.arr old) (.arr id)
 | mref (id old:Nat) (h:ren id=some old):zbG ren (.mref old) (.mref id)
 | nil (id:Nat) (h:ren id=none):zbG ren (.p .nil) (.arr id)
 | clo (fn:Fn) (fs cs fs' cs':List AV) (h1:fs.length=fs'.length) (h2:cs.length=cs'.length)
  (h3:∀ i,i<fs'.length->zbG ren (fs.getD i .any) (fs'.getD i .any)) (h4:∀ i,i<cs'.length->zbG ren (cs.getD i .any) (cs'.getD i .any)):zbG ren (.clo fn fs cs) (.clo fn fs' cs')
 | agg (cs cs':List AV) (h1:cs.length=cs'.length) (h2:∀ i,i<cs'.length->zbG ren (cs.getD i .any) (cs'.getD i .any)):zbG ren (.agg cs) (.agg cs')
 | tup (cs cs':List AV) (h1:cs.length=cs'.length) (h2:∀ i,i<cs'.length->zbG ren (cs.getD i .any) (cs'.getD i .any)):zbG ren (.tup cs) (.tup cs')
def zay(γ:Nat->Option G)(ids:List (Nat×Nat))(ren:Nat->Option Nat):Nat->Option G:=fun id=>
 match ze id ids with
 | none=>none
 | some k=>match ren id with
  | some old=>γ old
  | none=>some (.arr none k 0 0)
inductive zcv(ids:List (Nat×Nat)):AV->Prop
 | any:zcv ids .any
 | p (q:PV):zcv ids (.p q)
 | ref (id off:Nat) (h:(ze id ids).isSome=true):zcv ids (.ref id off)
 | arr (id:Nat) (h:(ze id ids).isSome=true):zcv ids (.arr id)
 | mref (id:Nat) (h:(ze id ids).isSome=true):zcv ids (.mref id)
 | clo (fn:Fn) (fs cs:List AV) (h1:∀ i,i<fs.length->zcv ids (fs.getD i .any)) (h2:∀ i,i<cs.length->zcv ids (cs.getD i .any)):zcv ids (.clo fn fs cs)
 | agg (cs:List AV) (h1:∀ i,i<cs.length->zcv ids (cs.getD i .any)):zcv ids (.agg cs)
 | tup (cs:List AV) (h1:∀ i,i<cs.length->zcv ids (cs.getD i .any)):zcv ids (.tup cs)
theorem zbG.rel{ren:Nat->Option Nat}{ids:List (Nat×Nat)}{x x':AV}(h:zbG ren x x'):∀ {v:Value},zcv ids x'->ARel γ M x v->ARel (zay γ ids ren) M x' v:=by
 have look:∀ {id old:Nat} {g:G},ren id=some old->(ze id ids).isSome=true->γ old=some g->zay γ ids ren id=some g:=by
  intro id old g hr hi hg
  unfold zay
  cases hl:ze id ids with
  | none=>rw[hl]at hi;cases hi
  | some k=>simp only[hr];exact hg
 induction h with
 | any x=>intro v _ _;exact .any v
 | p q=>intro v _ hx;exact .p _ _ hx.p_inv
 | pv q q' h=>intro v _ hx;exact .p _ _ (h _ _ hx.p_inv)
 | ref id old off h=>
  intro v hu hx
  cases hu with|ref _ _ hu=>
  obtain⟨b,hg,rfl⟩:=hx.ref_inv
  exact .ref _ _ _ (look h hu hg)
 | arr id old h=>
  intro v hu hx
  cases hu with|arr _ hu=>
  obtain⟨a,k,n,cap,hg,rfl⟩:=hx.arr_inv
  exact .arr _ _ _ _ _ (look h hu hg)
 | mref id old h=>
  intro v hu hx
  cases hu with|mref _ hu=>
  cases hx with|mref _ b hg=>
  exact .mref _ _ (look h hu hg)
 | nil id h=>
  intro v hu hx
  cases hu with|arr _ hu=>
  cases hx.p_inv
  cases hl:ze id ids with
  | none=>rw[hl]at hu;cases hu
  | some k=>
   have e:zay γ ids ren id=some (.arr none k 0 0):=by unfold zay;simp only[hl,h]
   exact .arr id none k 0 0 e
 | clo fn fs cs fs' cs' h1 h2 h3 h4 ih3 ih4=>
  intro v hu hx
  cases hu with|clo _ _ _ u1 u2=>
  cases hx with|clo _ _ _ vf vc hf hc g1 g2=>
  exact .clo _ _ _ _ _ (by omega) (by omega) (fun i hi=>ih3 i hi (u1 i hi) (g1 i (by omega))) (fun i hi=>ih4 i hi (u2 i hi) (g2 i (by omega)))
 | agg cs cs' h1 h2 ih=>
  intro v hu hx
  cases hu with|agg _ u1=>
  obtain⟨vs,rfl,hs,hr⟩:=hx.agg_inv
  exact .agg _ _ (by omega) fun i hi=>ih i hi (u1 i hi) (hr i (by omega))
 | tup cs cs' h1 h2 ih=>
  intro v hu hx
  cases hu with|tup _ u1=>
  obtain⟨vs,rfl,hs,hr⟩:=hx.tup_inv
  exact .tup _ _ (by omega) fun i hi=>ih i hi (u1 i hi) (hr i (by omega))
inductive zi3(ren:Nat->Option Nat):AObj->AObj->Prop
 | refl_b (e:TypeId) (mu:Bool) (l:List UInt8):zi3 ren (.barr e mu l) (.barr e mu l)
 | larr (e:TypeId) (mu:Bool) (k:Nat) (R:Rows):zi3 ren (.larr e mu k R) (.larr e mu k R)
 | bcv (e:TypeId) (l:List UInt8):zi3 ren (.bcv e l) (.bcv e l)
 | raw (o:Obj):zi3 ren (.raw o) (.raw o)
 | mp (e:Ec) (l:List (Int×Elt e)):zi3 ren (.mp e l) (.mp e l)
 | bldr (T:TypeId) (a a':AV) (h:zbG ren a a'):zi3 ren (.bldr T a) (.bldr T a')
 | cells (cs cs':List AV) (h1:cs.length=cs'.length) (h2:∀ i,i<cs'.length->zbG ren (cs.getD i .any) (cs'.getD i .any)):zi3 ren (.cells cs) (.cells cs')
def zmK(ids:List (Nat×Nat)):AObj->Prop
 | .cells cs=>∀ i,i<cs.length->zcv ids (cs.getD i .any)
 | .bldr _ a=>zcv ids a
 | _=>True
def ziP(k:Nat):AObj->Prop
 | .barr _ _ l=>k=1/\l=[]
 | .larr _ _ k' R=>k=k'/\R.n=0
 | _=>False
theorem zwW{α:Type}{p:α->Prop}:∀ {l:List α},All (l.map p)->∀ x ∈ l,p x
 | [],_,x,hx=>by cases hx
 | y::l,h,x,hx=>by
  rcases List.mem_cons.1 hx with e|e
  .rw [e];exact h.1
  .exact zwW h.2 x e
theorem zAu{l:List (Nat×AV)}{o:List (Nat×AObj)}(ids:List (Nat×Nat))(ren:Nat->Option Nat)
 (hids:o.map (·.1)=ids.map (·.1))
 (hl:All (l.map fun p=>zbG ren (s.sl p.1) p.2/\zcv ids p.2))
 (ho:All (o.map fun p=>zmK ids p.2/\match ren p.1 with
  | some old=>∃ ob,s.ob old=some ob/\zi3 ren ob p.2
  | none=>∀ k,ze p.1 ids=some k->ziP k p.2))
 (hfx:∀ i g,C.g0 i=some g->ren i=some i/\(ze i ids).isSome=true)
 (hinj:∀ i j old,ren i=some old->ren j=some old->(ze i ids).isSome=true->(ze j ids).isSome=true->i=j):
 Sub C s (mkS l o):=by
 rintro a w ⟨γ,M,h⟩
 have hkeys:∀ i,(ze i o).isSome=(ze i ids).isSome:=by
  have:∀ (o:List (Nat×AObj)) (ids:List (Nat×Nat)),o.map (·.1)=ids.map (·.1)->∀ i,(ze i o).isSome=(ze i ids).isSome:=by
   intro o
   induction o with
   | nil=>intro ids he i;cases ids with|nil=>rfl|cons _ _=>cases he
   | cons p o ih=>
    intro ids he i
    cases ids with
    | nil=>cases he
    | cons q ids=>
     simp only[List.map_cons,List.cons.injEq]at he
     unfold ze
     rw[he.1]
     cases Nat.beq i q.1 with
     | true=>rfl
     | false=>exact ih ids he.2 i
  exact this o ids hids
 have hob:∀ i ob,ze i o=some ob->zmK ids ob/\match ren i with
  | some old=>∃ ob0,s.ob old=some ob0/\zi3 ren ob0 ob
  | none=>∀ k,ze i ids=some k->ziP k ob:=fun i ob hi=>zwW ho _ (zaD hi)
 have hγ:∀ i g,zay γ ids ren i=some g->(∃ old,ren i=some old/\γ old=some g/\(ze i ids).isSome=true)\/∃ k,g=.arr none k 0 0:=by
  intro i g hg
  unfold zay at hg
  cases hl':ze i ids with
  | none=>rw[hl']at hg;cases hg
  | some k=>
   rw[hl']at hg
   cases hr:ren i with
   | none=>rw[hr]at hg;cases hg;exact .inr ⟨k,rfl⟩
   | some old=>rw[hr]at hg;exact .inl ⟨old,rfl,hg,rfl⟩
 refine⟨zay γ ids ren,M,?_,?_,?_,?_,?_,h.mem,h.le,h.new,h.fr,h.df,h.nt,fun i g hg=>by
  obtain⟨h1,h2⟩:=hfx i g hg
  have:=h.gl i g hg
  unfold zay
  cases hl':ze i ids with
  | none=>rw[hl']at h2;cases h2
  | some k=>simp only[h1];exact this⟩
 .intro t
  show ARel _ M (look t .any l) _
  rcases zqr (d:=AV.any) (l:=l) (t:=t)with⟨p,hp,rfl,e⟩|e
  .rw [e]
   obtain⟨h1,h2⟩:=zwW hl p hp
   exact h1.rel h2 (h.sl p.1)
  .rw [e];exact .any _
 .intro id ob hi
  have hi':ze id o=some ob:=hi
  obtain⟨hu,hc⟩:=hob id ob hi'
  have hsome:(ze id ids).isSome=true:=by rw[<-hkeys,hi'];rfl
  obtain⟨k,hk⟩:=Option.isSome_iff_exists.1 hsome
  cases hr:ren id with
  | none=>
   rw[hr]at hc
   have hem:=hc k hk
   have hg:zay γ ids ren id=some (.arr none k 0 0):=by unfold zay;simp only[hk,hr]
   cases ob with
   | cells cs=>exact hem.elim
   | bcv _ _=>exact hem.elim
   | bldr _ _=>exact hem.elim
   | raw _=>exact hem.elim
   | mp _ _=>exact hem.elim
   | barr e mu l'=>
    obtain⟨rfl,rfl⟩:=hem
    exact⟨none,0,hg,zcM M w e mu 1⟩
   | larr e mu k' R=>
    obtain⟨rfl,h0⟩:=hem
    exact⟨none,0,[],by rw[h0];exact hg,(fun i j hi _=>by omega),by rw[h0];exact zcM M w e mu k⟩
  | some old=>
   rw[hr]at hc
   obtain⟨ob0,ho0,hcov⟩:=hc
   have hom:=h.ob old ob0 ho0
   have hg:∀ g,γ old=some g->zay γ ids ren id=some g:=fun g hg=>by unfold zay;simp only[hk,hr];exact hg
   cases hcov with
   | refl_b e mu l'=>
    obtain⟨a',cap,h1,h2⟩:=hom
    exact⟨a',cap,hg _ h1,h2⟩
   | larr e mu k' R=>
    obtain⟨a',cap,vs,h1,h2,h3⟩:=hom
    exact⟨a',cap,vs,hg _ h1,h2,h3⟩
   | bcv e l'=>obtain⟨g,cur,h1,h2⟩:=hom;exact⟨g,cur,hg _ h1,h2⟩
   | mp e l'=>obtain⟨b,es,cl,h1,h2⟩:=hom;exact⟨b,es,cl,hg _ h1,h2⟩
   | raw o'=>obtain⟨b,h1,h2⟩:=hom;exact⟨b,hg _ h1,h2⟩
   | bldr T x x' hx=>obtain⟨b,v0,v1,h1,h2,h3,h4,h5,h6⟩:=hom;exact⟨b,v0,v1,hg _ h1,h2,h3,hx.rel hu h4,h5,h6⟩
   | cells cs cs' e1 e2=>
    obtain⟨b,vs,e,h1,h2,h3,h4,h5⟩:=hom
    exact⟨b,vs,e,hg _ h1,h2,by omega,fun j hj=>⟨(e2 j hj).rel (hu j hj) (h4 j (by omega)).1,(h4 j (by omega)).2⟩,h5⟩
 .intro id hi
  have hi':(ze id o).isSome=false:=hi
  rw[hkeys]at hi'
  unfold zay
  cases hl':ze id ids with
  | none=>rfl
  | some k=>rw[hl']at hi';cases hi'
 .intro i j g g' b _ _ hg hg' hb hb'
  rcases hγ i g hg with⟨old,hr,hgo,hs1⟩|⟨k,rfl⟩
  .rcases hγ j g' hg' with⟨old',hr',hgo',hs2⟩|⟨k,rfl⟩
   . -- both are old objects that stand
    have h1:s.ob old≠none:=by
     obtain⟨ob,hob1⟩:=Option.isSome_iff_exists.1 ((hkeys i).trans hs1)
     obtain⟨_,hc⟩:=hob i ob hob1
     rw[hr]at hc
     obtain⟨ob0,ho0,_⟩:=hc
     rw[ho0];simp
    have h2:s.ob old'≠none:=by
     obtain⟨ob,hob1⟩:=Option.isSome_iff_exists.1 ((hkeys j).trans hs2)
     obtain⟨_,hc⟩:=hob j ob hob1
     rw[hr']at hc
     obtain⟨ob0,ho0,_⟩:=hc
     rw[ho0];simp
    have e:=h.sep old old' g g' b h1 h2 hgo hgo' hb hb'
    subst e
    exact hinj i j old hr hr' hs1 hs2
   .cases hb'
  .cases hb
 .intro i g b hoi hg hb
  rcases hγ i g hg with⟨old,hr,hgo,hs1⟩|⟨k,rfl⟩
  .have h1:s.ob old≠none:=by
    obtain⟨ob,hob1⟩:=Option.isSome_iff_exists.1 ((hkeys i).trans hs1)
    obtain⟨_,hc⟩:=hob i ob hob1
    rw[hr]at hc
    obtain⟨ob0,ho0,_⟩:=hc
    rw[ho0];simp
   exact h.lo old g b h1 hgo hb
  .cases hb
end Go.Am
/-! The rules that a lifted function's proof is made of. -/
namespace Go.Am
open Go Go.RowKit
variable {P:Program}{γ γ':Nat->Option G}{M M':Mem}{C:Ctx}{s s':S}{a a':Act}{w w':World}
abbrev Rn:=List (Nat×Option Nat)
def zI(rn:Rn):Nat->Option Nat:=fun id=>match ze id rn with|some (some old)=>some old|_=>none
def zkl(rn:Rn):AV->Bool
 | .any=>true
 | .p _=>true
 | .ref id _=>(zI rn id).isSome
 | .arr id=>(ze id rn).isSome
 | .mref id=>(zI rn id).isSome
 | _=>false
def zkk(rn:Rn):AV->Bool
 | .clo _ fs cs=>fs.all (zkl rn)&&cs.all (zkl rn)
 | .agg cs=>cs.all (zkl rn)
 | .tup cs=>cs.all (zkl rn)
 | x=>zkl rn x
def zcW(rn:Rn):AV->AV
 | .ref id off=>match zI rn id with|some old=>.ref old off|none=>.any
 | .arr id=>match zI rn id with|some old=>.arr old|none=>.p .nil
 | .mref id=>match zI rn id with|some old=>.mref old|none=>.any
 | x=>x
def zgg(rn:Rn):AV->AV
 | .clo fn fs cs=>.clo fn (fs.map (zcW rn)) (cs.map (zcW rn))
 | .agg cs=>.agg (cs.map (zcW rn))
 | .tup cs=>.tup (cs.map (zcW rn))
 | x=>zcW rn x
def zgD(rn:Rn):AObj->AObj
 | .cells cs=>.cells (cs.map (zgg rn))
 | .bldr T a=>.bldr T (zgg rn a)
 | o=>o
def zxe(rn:Rn):AObj->Bool
 | .cells cs=>cs.all (zkk rn)
 | .bldr _ a=>zkk rn a
 | _=>true
def kOf:AObj->Nat
 | .barr _ _ _=>1
 | .larr _ _ k _=>k
 | _=>0
def yd(o:List (Nat×AObj)):List (Nat×Nat):=o.map fun p=>(p.1,kOf p.2)
theorem zc5{α β:Type}:∀ {o:List (Nat×α)} {r:List (Nat×β)},o.map (·.1)=r.map (·.1)->∀ i,(ze i o).isSome=(ze i r).isSome:=by
 intro o
 induction o with
 | nil=>intro r he i;cases r with|nil=>rfl|cons _ _=>cases he
 | cons p o ih=>
  intro r he i
  cases r with
  | nil=>cases he
  | cons q r=>
   simp only[List.map_cons,List.cons.injEq]at he
   unfold ze
   rw[he.1]
   cases Nat.beq i q.1 with
   | true=>rfl
   | false=>exact ih he.2 i
theorem zfJ{rn:Rn}{id:Nat}(h:(zI rn id).isSome=true):(ze id rn).isSome=true:=by
 unfold zI at h
 cases hl:ze id rn with
 | none=>rw[hl]at h;cases h
 | some _=>rfl
section
variable {rn:Rn}{ids:List (Nat×Nat)}(hk:∀ i,(ze i ids).isSome=(ze i rn).isSome)
include hk
theorem zte{x:AV}(h:zkl rn x=true):zbG (zI rn) (zcW rn x) x/\zcv ids x:=by
 cases x with
 | any=>exact⟨.any _,.any⟩
 | p q=>exact⟨.p q,.p q⟩
 | ref id off=>
  have h':(zI rn id).isSome=true:=h
  obtain⟨old,ho⟩:=Option.isSome_iff_exists.1 h'
  refine⟨?_,.ref _ _ (by rw[hk];exact zfJ h')⟩
  simp only[zcW,ho]
  exact .ref id old off ho
 | arr id=>
  refine⟨?_,.arr _ (by rw[hk];exact h)⟩
  cases ho:zI rn id with
  | none=>simp only[zcW,ho];exact .nil id ho
  | some old=>simp only[zcW,ho];exact .arr id old ho
 | mref id=>
  have h':(zI rn id).isSome=true:=h
  obtain⟨old,ho⟩:=Option.isSome_iff_exists.1 h'
  refine⟨?_,.mref _ (by rw[hk];exact zfJ h')⟩
  simp only[zcW,ho]
  exact .mref id old ho
 | _=>cases h
end
theorem zdy{α:Type}{f:α->Bool}{l:List α}(h:l.all f=true){i:Nat}(hi:i<l.length)(d:α):f (l.getD i d)=true:=by
 rw[List.getD_eq_getElem?_getD,List.getElem?_eq_getElem hi]
 exact(List.all_eq_true.1 h) _ (List.getElem_mem hi)
theorem zdT(f:AV->AV)(hf:f .any=.any)(l:List AV)(i:Nat):(l.map f).getD i .any=f (l.getD i .any):=by
 rw[List.getD_eq_getElem?_getD,List.getD_eq_getElem?_getD,List.getElem?_map]
 cases l[i]? with
 | none=>exact hf.symm
 | some x=>rfl
theorem zzU{rn:Rn}{ids:List (Nat×Nat)}(hk:∀ i,(ze i ids).isSome=(ze i rn).isSome){x:AV}(h:zkk rn x=true):zbG (zI rn) (zgg rn x) x/\zcv ids x:=by
 have lists:∀ cs:List AV,cs.all (zkl rn)=true->(∀ i,i<cs.length->zbG (zI rn) ((cs.map (zcW rn)).getD i .any) (cs.getD i .any))/\∀ i,i<cs.length->zcv ids (cs.getD i .any):=by
  intro cs hc
  refine⟨fun i hi=>?_,fun i hi=>(zte hk (zdy hc hi .any)).2⟩
  rw[zdT (zcW rn) rfl]
  exact(zte hk (zdy hc hi .any)).1
 cases x with
 | clo fn fs cs=>
  simp only[zkk,Bool.and_eq_true]at h
  obtain⟨h1,h2⟩:=lists fs h.1
  obtain⟨h3,h4⟩:=lists cs h.2
  exact⟨.clo _ _ _ _ _ (by simp) (by simp) h1 h3,.clo _ _ _ h2 h4⟩
 | agg cs=>
  obtain⟨h1,h2⟩:=lists cs h
  exact⟨.agg _ _ (by simp) h1,.agg _ h2⟩
 | tup cs=>
  obtain⟨h1,h2⟩:=lists cs h
  exact⟨.tup _ _ (by simp) h1,.tup _ h2⟩
 | any=>exact zte hk (x:=.any) h
 | p q=>exact zte hk (x:=.p q) h
 | ref id off=>exact zte hk (x:=.ref id off) h
 | arr id=>exact zte hk (x:=.arr id) h
 | mref id=>exact zte hk (x:=.mref id) h
 | aptr _ _ _=>cases h
 | gd _ _=>cases h
def zaF:List Nat->Bool
 | []=>true
 | x::r=>!(r.any (Nat.beq x))&&zaF r
def olds:Rn->List Nat
 | []=>[]
 | p::r=>match p.2 with|some old=>old::olds r|none=>olds r
theorem zaq{α:Type}:∀ {rn:List (Nat×α)},zaF (rn.map (·.1))=true->∀ {i:Nat} {old:α},(i,old) ∈ rn->ze i rn=some old:=by
 intro rn
 induction rn with
 | nil=>intro _ i old h;cases h
 | cons p r ih=>
  intro h i old hi
  simp only[List.map_cons,zaF,Bool.and_eq_true,Bool.not_eq_true']at h
  unfold ze
  rcases List.mem_cons.1 hi with e|e
  .rw [<-e];simp
  .cases hb:Nat.beq i p.1 with
   | true=>
    have hm:(r.map (·.1)).any (Nat.beq p.1)=true:=List.any_eq_true.2 ⟨i,List.mem_map.2 ⟨_,e,rfl⟩,by rw[Nat.eq_of_beq_eq_true hb];simp⟩
    rw[hm]at h;cases h.1
   | false=>exact ih h.2 e
theorem zyg:∀ {rn:Rn} {i old:Nat},(i,some old) ∈ rn->old ∈ olds rn:=by
 intro rn
 induction rn with
 | nil=>intro i old h;cases h
 | cons p r ih=>
  intro i old h
  obtain⟨pi,po⟩:=p
  rcases List.mem_cons.1 h with e|e
  .cases e;simp[olds]
  .cases po with
   | none=>exact ih e
   | some q=>simp only[olds];exact List.mem_cons_of_mem _ (ih e)
theorem zm9:∀ {rn:Rn},zaF (olds rn)=true->∀ i j old,zI rn i=some old->zI rn j=some old->i=j:=by
 have memF:∀ {rn:Rn} {i old:Nat},zI rn i=some old->(i,some old) ∈ rn:=by
  intro rn i old h
  unfold zI at h
  split at h
  .rename_i q hq;cases h;exact zaD hq
  .cases h
 intro rn h i j old hi hj
 have h1:=memF hi
 have h2:=memF hj
 clear hi hj
 induction rn with
 | nil=>cases h1
 | cons p r ih=>
  obtain⟨pi,po⟩:=p
  cases po with
  | none=>
   rcases List.mem_cons.1 h1 with e|e
   .cases e
   .rcases List.mem_cons.1 h2 with e2|e2
    .cases e2
    .exact ih h e e2
  | some q=>
   simp only[olds,zaF,Bool.and_eq_true,Bool.not_eq_true']at h
   have hno:∀ k,(k,some q) ∉ r:=fun k hk=>by
    have:(olds r).any (Nat.beq q)=true:=List.any_eq_true.2 ⟨q,zyg hk,by simp⟩
    rw[this]at h;cases h.1
   rcases List.mem_cons.1 h1 with e|e
   .cases e
    rcases List.mem_cons.1 h2 with e2|e2
    .cases e2;rfl
    .exact absurd e2 (hno j)
   .rcases List.mem_cons.1 h2 with e2|e2
    .cases e2;exact absurd e (hno i)
    .exact ih h.2 e e2
def zBJ(s:S):Option Nat->Option AObj
 | some old=>s.ob old
 | none=>none
def ziQ:AObj->Bool
 | .barr _ _ []=>true
 | .larr _ _ _ (.fn 0 _)=>true
 | .larr _ _ _ (.dat _ [])=>true
 | _=>false
theorem zju{o:AObj}(h:ziQ o=true):ziP (kOf o) o:=by
 unfold ziQ at h
 split at h
 .exact ⟨rfl,rfl⟩
 .exact ⟨rfl,rfl⟩
 .exact ⟨rfl,rfl⟩
 .cases h
def zpB(rn:Rn)(l:List (Nat×AV))(s:S):List AV×List (Option AObj):=
 (l.map fun p=>s.sl p.1,rn.map fun p=>zBJ s p.2)
def zFz(rn:Rn):Option Nat->AObj->Option AObj
 | some _,o=>some (zgD rn o)
 | none,_=>none
def zkh(rn:Rn):Rn->List (Nat×AObj)->List (Option AObj)
 | p::r,q::o=>zFz rn p.2 q.2::zkh rn r o
 | _,_=>[]
def zi4(rn:Rn)(l:List (Nat×AV))(o:List (Nat×AObj)):List AV×List (Option AObj):=
 (l.map fun p=>zgg rn p.2,zkh rn rn o)
def zhM:Rn->List (Nat×AObj)->Bool
 | p::r,q::o=>(match p.2 with|some _=>true|none=>ziQ q.2)&&zhM r o
 | _,_=>true
def fixB(fx:List Nat)(rn:Rn):Bool:=fx.all fun i=>match zI rn i with|some j=>Nat.beq i j|none=>false
structure zaZ(C:Ctx)(nt:Nat)(fx:List Nat):Prop where
 nt:C.nt=nt
 fx:∀ i g,C.g0 i=some g->i ∈ fx
def okB(fx:List Nat)(rn:Rn)(l:List (Nat×AV))(o:List (Nat×AObj)):Bool:=
 fixB fx rn&&(  l.all (fun p=>zkk rn p.2)&&o.all (fun p=>zxe rn p.2)&&zaF (olds rn)&&zaF (rn.map (·.1))&&zhM rn o)
theorem zbh{nt:Nat}{fx:List Nat}(hC:zaZ C nt fx)(rn:Rn){l:List (Nat×AV)}{o:List (Nat×AObj)}(hk:o.map (·.1)=rn.map (·.1))(h:zpB rn l s=zi4 rn l o)(hok:okB fx rn l o=true):Sub C s (mkS l o):=by
 unfold okB at hok
 simp only[Bool.and_eq_true]at hok
 obtain⟨hfix,⟨⟨⟨h1,h2⟩,h3⟩,h4⟩,h5⟩:=hok
 have hl:l.map (fun p=>s.sl p.1)=l.map fun p=>zgg rn p.2:=congrArg (·.1) h
 have ho:rn.map (fun p=>zBJ s p.2)=zkh rn rn o:=congrArg (·.2) h
 have hids:o.map (·.1)=(yd o).map (·.1):=by simp[yd]
 have hkk:∀ i,(ze i (yd o)).isSome=(ze i rn).isSome:=fun i=>by rw[<-zc5 hids i];exact zc5 hk i
 refine zAu (yd o) (zI rn) hids ?_ ?_ (fun i g hg=>?_) ?_
 .clear h ho hk h2 h3 h4 h5 hids
  generalize yd o=ids at hkk
  induction l with
  | nil=>exact trivial
  | cons p l ih=>
   simp only[List.map_cons,List.cons.injEq]at hl
   simp only[List.all_cons,Bool.and_eq_true]at h1
   refine⟨?_,ih h1.2 hl.2⟩
   obtain⟨c1,c2⟩:=zzU hkk h1.1
   rw[hl.1];exact⟨c1,c2⟩
 .have h4':zaF ((yd o).map (·.1))=true:=by rw[<-hids,hk];exact h4
  have key:∀ (o':List (Nat×AObj)) (rn':Rn),o'.map (·.1)=rn'.map (·.1)->rn'.map (fun p=>zBJ s p.2)=zkh rn rn' o'->o'.all (fun p=>zxe rn p.2)=true->zhM rn' o'=true->
   (∀ x ∈ rn',x ∈ rn)->(∀ x ∈ o',x ∈ o)->
   All (o'.map fun p=>zmK (yd o) p.2/\match zI rn p.1 with
    | some old=>∃ ob,s.ob old=some ob/\zi3 (zI rn) ob p.2
    | none=>∀ k,ze p.1 (yd o)=some k->ziP k p.2):=by
   intro o'
   induction o' with
   | nil=>intro rn' _ _ _ _ _ _;exact trivial
   | cons p o' ih=>
    intro rn' hk ho h2 h5 hin hio
    cases rn' with
    | nil=>cases hk
    | cons q rn'=>
     simp only[List.map_cons,List.cons.injEq,zkh]at hk ho
     simp only[List.all_cons,Bool.and_eq_true]at h2
     simp only[zhM,Bool.and_eq_true]at h5
     refine⟨?_,ih rn' hk.2 ho.2 h2.2 h5.2 (fun x hx=>hin x (by simp[hx])) (fun x hx=>hio x (by simp[hx]))⟩
     obtain⟨qi,qo⟩:=q
     obtain⟨pi,po⟩:=p
     have hpi:pi=qi:=hk.1
     subst hpi
     have hq:ze pi rn=some qo:=zaq h4 (hin (pi,qo) (by simp))
     have hu:=h2.1
     dsimp only at hu ho h5 ⊢
     cases qo with
     | none=>
      have hr:zI rn pi=none:=by unfold zI;rw[hq]
      rw[hr]
      refine⟨by cases po with|cells cs=>cases h5.1|bldr _ _=>cases h5.1|_=>exact trivial,fun k hk'=>?_⟩
      have:ze pi (yd o)=some (kOf po):=zaq h4' (List.mem_map.2 ⟨(pi,po),hio _ (by simp),rfl⟩)
      rw[this]at hk';cases hk'
      exact zju h5.1
     | some old=>
      have hr:zI rn pi=some old:=by unfold zI;rw[hq]
      rw[hr]
      have ho1:s.ob old=some (zgD rn po):=ho.1
      cases po with
      | barr e mu l'=>exact⟨trivial,_,ho1,.refl_b _ _ _⟩
      | larr e mu k R=>exact⟨trivial,_,ho1,.larr _ _ _ _⟩
      | bcv e l'=>exact⟨trivial,_,ho1,.bcv _ _⟩
      | raw o'=>exact⟨trivial,_,ho1,.raw _⟩
      | mp e l'=>exact⟨trivial,_,ho1,.mp _ _⟩
      | bldr T x=>have hu:zkk rn x=true:=hu;exact⟨(zzU hkk hu).2,_,ho1,.bldr _ _ _ (zzU hkk hu).1⟩
      | cells cs=>
       have hu:cs.all (zkk rn)=true:=hu
       refine⟨fun i hi=>(zzU hkk (zdy hu hi .any)).2,_,ho1,.cells _ _ (by simp) fun i hi=>?_⟩
       rw[zdT (zgg rn) rfl]
       exact(zzU hkk (zdy hu hi .any)).1
  exact key o rn hk ho h2 h5 (fun x hx=>hx) (fun x hx=>hx)
 .have h1:=(List.all_eq_true.1 hfix) i (hC.fx i g hg)
  cases hr:zI rn i with
  | none=>rw[hr]at h1;cases h1
  | some j=>
   rw[hr]at h1
   have:i=j:=Nat.eq_of_beq_eq_true h1
   subst this
   exact⟨rfl,by rw[hkk];exact zfJ (by rw[hr];rfl)⟩
 .intro i j old hi hj _ _
  exact zm9 h3 i j old hi hj
def zfK:Code->Option (Nat×Array Oper×Bool)
 | .region id ops d=>some (id,ops,d)
 | _=>none
theorem zhf{c:Code}{r:Nat×Array Oper×Bool}(h:zfK c=some r):c=.region r.1 r.2.1 r.2.2:=by
 cases c with
 | region id ops d=>cases h;rfl
 | _=>cases h
def arun(P:Program)(env:Env)(nt:Nat)(c:Code)(s:S)(rn:Rn)(l:List (Nat×AV)):Option (Bool×List AV×List (Option AObj)×List Prop):=
 match zfK c with
 | some (_,ops,d)=>match zl2 P env nt ops (List.range ops.size) s with
  | some (s',ps)=>some (d,(zpB rn l s').1,(zpB rn l s').2,ps)
  | none=>none
 | none=>none
theorem zbg{env:Env}(henv:yQ P env){nt:Nat}{fx:List Nat}(hC:zaZ C nt fx){c:Code}{Q:Exit->S->Prop}(rn:Rn)(l:List (Nat×AV))(o:List (Nat×AObj))(ps:List Prop)
 (h:arun P env nt c s rn l=some (false,(zi4 rn l o).1,(zi4 rn l o).2,ps)) (hk:(o.map (·.1),okB fx rn l o)=(rn.map (·.1),true)) (hp:All ps) (hq:∀ s',Sub C s' (mkS l o)->Q .normal s'):
 T P C c s Q:=by
 have hnt:=hC.nt
 subst hnt
 unfold arun at h
 cases hr:zfK c with
 | none=>rw[hr]at h;cases h
 | some r=>
  obtain⟨id,ops,d⟩:=r
  rw[hr]at h
  dsimp only at h
  cases ha:zl2 P env C.nt ops (List.range ops.size) s with
  | none=>rw[ha]at h;cases h
  | some q=>
   obtain⟨s',ps'⟩:=q
   rw[ha]at h
   simp only[Option.some.injEq,Prod.mk.injEq]at h
   obtain⟨rfl,h1,h2,rfl⟩:=h
   have hc:=zhf hr
   rw[hc]
   have hv:zpB rn l s'=zi4 rn l o:=Prod.ext h1 h2
   simp only[Prod.mk.injEq]at hk
   exact zAq henv ha hp (hq s' (zbh hC rn hk.1 hv hk.2))
def zDp:Code->Bool|.seq _ _=>true|_=>false
def zEG:Code->Bool|.cond _ _ _=>true|_=>false
def zCK:Code->Option Nat|.block id _=>some id|_=>none
def zEF:Code->Bool|.loop _=>true|_=>false
def zEE:Code->Bool|.skip=>true|_=>false
def zHi:Code->Bool|.ret=>true|_=>false
def zEV:Code->Option Nat|.exit id=>some id|_=>none
theorem zb6:∀ (p q:List Nat) (c:Code),at_ (at_ c p) q=at_ c (p++q)
 | [],q,c=>by cases c <;> rfl
 | i::p,q,c=>by
  cases c <;> first
   | (simp only[List.cons_append,at_];split <;> exact zb6 p q _)
   | (simp only[List.cons_append,at_];exact zb6 p q _)
   | (simp only[List.cons_append,at_];cases q <;> rfl)
theorem zdJ(c:Code):at_ c []=c:=by cases c <;> rfl
theorem zCP(x y:Code):at_ (.seq x y) [0]=x:=zdJ x
theorem zCO(x y:Code):at_ (.seq x y) [1]=y:=zdJ y
theorem zAe(c:Operand)(x y:Code):at_ (.cond c x y) [0]=x:=zdJ x
theorem zAd(c:Operand)(x y:Code):at_ (.cond c x y) [1]=y:=zdJ y
theorem zwD(i:Nat)(x:Code):at_ (.block i x) [0]=x:=zdJ x
theorem zAc(x:Code):at_ (.loop x) [0]=x:=zdJ x
theorem yE{c:Code}{p:List Nat}{Q:Exit->S->Prop}(e:zDp (at_ c p)=true)
 (h:T P C (at_ c (p++[0])) s (zwO (fun s'=>T P C (at_ c (p++[1])) s' Q) Q)):T P C (at_ c p) s Q:=by
 rw[<-zb6,<-zb6]at h
 cases hc:at_ c p with
 | seq x y=>rw[hc,zCP,zCO]at h;exact zDE h
 | _=>rw[hc]at e;cases e
theorem zkd{c:Code}{p:List Nat}{Q:Exit->S->Prop}(e:zEG (at_ c p)=true)(b:Bool)(hc:aev s.sl (zE6 (at_ c p))=.p (.bool b))
 (h1:b=true->T P C (at_ c (p++[0])) s Q) (h2:b=false->T P C (at_ c (p++[1])) s Q):T P C (at_ c p) s Q:=by
 rw[<-zb6]at h1 h2
 cases hc':at_ c p with
 | cond x y z=>rw[hc']at h1 h2 hc;rw[zAe]at h1;rw[zAd]at h2;exact zAt hc h1 h2
 | _=>rw[hc']at e;cases e
theorem zfs{c:Code}{p:List Nat}{Q:Exit->S->Prop}(id:Nat)(e:zCK (at_ c p)=some id)(h:T P C (at_ c (p++[0])) s (zgc id Q)):T P C (at_ c p) s Q:=by
 rw[<-zb6]at h
 cases hc:at_ c p with
 | block i x=>rw[hc]at e h;cases e;rw[zwD]at h;exact zu8 h
 | _=>rw[hc]at e;cases e
theorem zu6{c:Code}{p:List Nat}{Q:Exit->S->Prop}(e:zEF (at_ c p)=true)(R:Nat->S->Prop)
 (round:∀ n s,R n s->T P C (at_ c (p++[0])) s (zwO (fun s'=>∃ m s2,m<n/\R m s2/\Sub C s' s2) Q)) (n:Nat) (h:R n s):T P C (at_ c p) s Q:=by
 rw[<-zb6]at round
 cases hc:at_ c p with
 | loop x=>rw[hc,zAc]at round;exact zAr R round n h
 | _=>rw[hc]at e;cases e
theorem zpr{c:Code}{p:List Nat}{Q:Exit->S->Prop}(e:zEE (at_ c p)=true)(h:Q .normal s):T P C (at_ c p) s Q:=by
 cases hc:at_ c p with
 | skip=>exact zAp h
 | _=>rw[hc]at e;cases e
theorem zps{c:Code}{p:List Nat}{Q:Exit->S->Prop}(e:zHi (at_ c p)=true)(h:Q .ret s):T P C (at_ c p) s Q:=by
 cases hc:at_ c p with
 | ret=>exact zDF h
 | _=>rw[hc]at e;cases e
theorem zu7{c:Code}{p:List Nat}{Q:Exit->S->Prop}(id:Nat)(e:zEV (at_ c p)=some id)(h:Q (.exit id) s):T P C (at_ c p) s Q:=by
 cases hc:at_ c p with
 | exit i=>rw[hc]at e;cases e;exact zAs h
 | _=>rw[hc]at e;cases e
theorem Sub.refl(s:S):Sub C s s:=fun _ _ h=>h
theorem Sub.trans{x y z:S}(h:Sub C x y)(k:Sub C y z):Sub C x z:=fun a w hs=>k a w (h a w hs)
theorem zFn{c:Code}{p:List Nat}{Q:Exit->S->Prop}(e:zDp (at_ c p)=true)(I:S->Prop)
 (h1:T P C (at_ c (p++[0])) s (zwO I Q)) (h2:∀ s',I s'->T P C (at_ c (p++[1])) s' Q):T P C (at_ c p) s Q:=
 yE e (h1.conseq fun e s' hq=>by cases e <;> first|exact h2 s' hq|exact hq)
theorem zjl{id:Nat}{Q:Exit->S->Prop}(h:Q .normal s):zgc id Q (.exit id) s:=by simp only[zgc,if_true];exact h
theorem zfC{id:Nat}{K:S->Prop}{Q:Exit->S->Prop}(h:Q (.exit id) s):zwO K Q (.exit id) s:=h
def zAv(P:Program)(C:Ctx)(rs:List ResultVar)(r:AV):Exit->S->Prop
 | .normal,s=>∃ s2,Sub C s s2/\zbf P s2 rs=some r
 | .ret,s=>∃ s2,Sub C s s2/\zbf P s2 rs=some r
 | _,_=>False
def zaV(fn:Func):Code:=fn.body.getD .skip
theorem zfw{f:FuncId}{fn:Func}{args:List AV}{r:AV}(hf:P.funcs[f]?=some fn)(hb:(fn.body.isSome,Nat.ble args.length fn.ntmps)=(true,true))
 (h:∀ (M:Mem) (vs:List Value),ARels γ0 M args vs->∀ C:Ctx,zaZ C fn.ntmps []->T P C (at_ (zaV fn) []) (zmY args) (zAv P C fn.results.toList r)):FnP P f args r:=by
 intro M w vs hM hvs
 simp only[Prod.mk.injEq]at hb
 obtain⟨c,hc⟩:=Option.isSome_iff_exists.1 hb.1
 have hcb:zaV fn=c:=by unfold zaV;rw[hc];rfl
 refine zwQ hf hc (Nat.le_of_ble_eq_true hb.2) (fun C hC hg=>?_) M w vs hM hvs
 have:=h M vs hvs C ⟨hC,fun i g hi=>by rw[hg]at hi;cases hi⟩
 rw[zdJ,hcb]at this
 intro a w hs
 refine wpIn_mono (this a w hs) fun e a' w' ⟨s',hq,hs'⟩=>?_
 cases e with
 | normal=>obtain⟨s2,hsub,hr⟩:=hq;exact⟨s2,hr,hsub a' w' hs'⟩
 | ret=>obtain⟨s2,hsub,hr⟩:=hq;exact⟨s2,hr,hsub a' w' hs'⟩
 | _=>exact hq.elim
def ze0(l:List (Nat×(List AV->Option (AV×Option Prop)))):Env:=fun f zs=>
 match ze f l with
 | some g=>g zs
 | none=>none
def zaG(P:Program)(f:FuncId)(g:List AV->Option (AV×Option Prop)):Prop:=∀ zs r ok,g zs=some (r,ok)->okP ok->zR P f=true/\FnP P f zs r
def zhZ(P:Program)(f:FuncId)(g:List AV->Option (AV×Option Prop)):Prop:=∀ zs r ok,g zs=some (r,ok)->okP ok->zDL P f zs r
theorem zaG.any{f:FuncId}{g:List AV->Option (AV×Option Prop)}(h:zaG P f g):zhZ P f g:=fun zs r ok he hok=>.inl (h zs r ok he hok)
def zpt(P:Program)(f:FuncId)(g:List AV->Option (AV×Option Prop)):Prop:=∀ zs r ok,g zs=some (r,ok)->okP ok->ExtP P f zs r
theorem zpt.any{f:FuncId}{g:List AV->Option (AV×Option Prop)}(h:zpt P f g):zhZ P f g:=fun zs r ok he hok=>.inr (h zs r ok he hok)
theorem zbi{l:List (Nat×(List AV->Option (AV×Option Prop)))}(h:All (l.map fun p=>zhZ P p.1 p.2)):yQ P (ze0 l):=by
 intro f zs r ok he hok
 unfold ze0 at he
 cases hl:ze f l with
 | none=>rw[hl]at he;cases he
 | some g=>rw[hl]at he;exact zwW h _ (zaD hl) zs r ok he hok
theorem zfF{nt:Nat}(hC:zaZ C nt []){args:List AV}{l:List (Nat×AV)}(h:zpB [] l (zmY args)=zi4 [] l [])(hok:okB [] [] l []=true):Sub C (zmY args) (mkS l []):=
 zbh hC [] rfl h hok
theorem zfS{p:Prop}[Decidable p]{α:Type}{x:Option α}{r:α}(h:(if p then x else none)=some r):p/\x=some r:=by
 by_cases hp:p
 .rw [if_pos hp]at h;exact⟨hp,h⟩
 .rw [if_neg hp]at h;cases h
theorem zuw{b:Bool}{α:Type}{x y:α}{r:α}(h:(if b=true then x else y)=r)(hb:b=true):x=r:=by rw[if_pos hb]at h;exact h
theorem zux{b:Bool}{α:Type}{x y:α}{r:α}(h:(if b=true then x else y)=r)(hb:b=false):y=r:=by rw[if_neg (by simp[hb])]at h;exact h
end Go.Am
