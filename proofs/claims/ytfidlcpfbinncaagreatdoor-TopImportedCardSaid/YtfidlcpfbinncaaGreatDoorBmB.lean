/-
  A part of a machine that runs known data, and its soundness; no condition of its own.
-/
import Derived.Deep.AppendSrc
import Derived.Lib.Builder
import Derived.Lib.ConvBytes
import Derived.Test.YtfidlcpfbinncaaGreatDoorBmA
set_option linter.unusedVariables false
noncomputable section
/-! Reading. -/
namespace Go.Bm
open Go Go.RowKit
variable {S:zd}{γ γ':Nat->Option G}{C:Ctx}{h:Hp}{w w':World}{σ:Tr BV}{a:Act}{P:Program}
theorem zC(b off k:Nat):(⟨b,off,none⟩:Addr).add k=⟨b,off+k,none⟩:=by
 unfold Addr.add
 split
 .rename_i h;subst h;rfl
 .rfl
theorem zdI{a b:Nat}(h:a≠b):Nat.beq a b=false:=by
 cases hb:Nat.beq a b with
 | true=>exact absurd (Nat.eq_of_beq_eq_true hb) h
 | false=>rfl
theorem zdE{b:Bool}{v r:BV}(h:Bool.rec (motive:=fun _=>Option BV) none (some v) b=some r):b=true/\v=r:=by
 cases b with
 | true=>exact⟨rfl,by cases h;rfl⟩
 | false=>cases h
theorem znx(hT:TyOk S)(h2:∀ t,S.eq2 t=true->∀ (a b c d:Int) (w:World),(Op.equal t (.agg #[.int .i64 a,.int .i64 b]) (.agg #[.int .i64 c,.int .i64 d])).run S.P w=.ok (a==c&&b==d) w/\
 ∀ op x y,(eqGuard op t x y (.agg #[.int .i64 a,.int .i64 b]) (.agg #[.int .i64 c,.int .i64 d])).run S.P w=.ok () w)
 {t:TypeId} {xo yo:Operand} {x y:BV} {r:Bool} (h:eqT S t yo x y=some r) {u v:Value} (hx:zf γ x u) (hy:zf γ y v) (w:World):
 (Op.equal t u v).run S.P w=.ok r w/\(∀ op,(eqGuard op t xo yo u v).run S.P w=.ok () w)/\binOp .eql t u v=(do pure (.bool (<-Op.equal t u v)))/\binOp .neq t u v=(do pure (.bool (!(<-Op.equal t u v)))):=by
 have e0:∃ d,∀ t u v,Op.equal t u v=Op.equalIn (d+1) t u v:=⟨9999,fun _ _ _=>rfl⟩
 obtain⟨d0,e0⟩:=e0
 have guard:∀ {u v:Value},(∀ op,eqGuard op t xo yo u v=pure ())->∀ op,(eqGuard op t xo yo u v).run S.P w=.ok () w:=fun hg op=>by rw[hg op];rfl
 unfold eqT at h
 split at h
 .rename_i hu
  unfold eqB at h
  split at h
  .cases h
   cases hx;cases hy
   refine⟨?_,guard fun op=>by cases op <;> rfl,rfl,rfl⟩
   rename_i p q
   rw[e0];simp only[Op.equalIn,Sem.run_bind,yi hT hu,Result.andThen_ok]
   cases p <;> cases q <;> rfl
  .cases h
 .rename_i e hu
  unfold eqP at h
  split at h
  .cases h;cases hx;cases hy
   exact⟨by rw[e0];simp[Op.equalIn,yi hT hu],guard fun op=>by cases op <;> rfl,rfl,rfl⟩
  .cases h;cases hx;cases hy
   exact⟨by rw[e0];simp[Op.equalIn,yi hT hu],guard fun op=>by cases op <;> rfl,rfl,rfl⟩
  .cases h;cases hx;cases hy
   exact⟨by rw[e0];simp[Op.equalIn,yi hT hu],guard fun op=>by cases op <;> rfl,rfl,rfl⟩
  .rename_i i o j q
   split at h
   .rename_i n hk hij
    cases h
    have e:=Nat.eq_of_beq_eq_true hij
    subst e
    cases hx with|p _ _ g hg=>
    cases hy with|p _ _ g' hg'=>
    rw[hg]at hg';cases hg'
    refine⟨?_,guard fun op=>by cases op <;> rfl,rfl,rfl⟩
    rw[e0]
    have hs:=zad hT hk w
    simp only[Op.equalIn,Sem.run_bind,yi hT hu,Result.andThen_ok,hs]
    have:(decide ((⟨g.b,o,none⟩:Addr)=⟨g.b,q,none⟩))=Nat.beq o q:=by
     cases hb:Nat.beq o q with
     | true=>rw[Nat.eq_of_beq_eq_true hb];simp
     | false=>have:=Nat.ne_of_beq_eq_false hb;simp[this]
    simp[sameAddr]
    show decide _=_
    exact this
   .cases h
  .cases h
 .rename_i e hu
  unfold eqL at h
  split at h <;> (try (cases h;done)) <;> cases h <;> cases hy <;> cases hx <;>
   exact⟨by rw[e0];simp[Op.equalIn,yi hT hu],guard fun op=>by cases op <;> rfl,rfl,rfl⟩
 .rename_i k e hu
  unfold eqM at h
  split at h <;> (try (cases h;done)) <;> cases h <;> cases hy <;> cases hx <;>
   exact⟨by rw[e0];simp[Op.equalIn,yi hT hu],guard fun op=>by cases op <;> rfl,rfl,rfl⟩
 .rename_i p q vv hu
  unfold eqF at h
  split at h <;> (try (cases h;done)) <;> cases h <;> cases hy <;> cases hx <;>
   exact⟨by rw[e0];simp[Op.equalIn,yi hT hu],guard fun op=>by cases op <;> rfl,rfl,rfl⟩
 .rename_i ms hu
  unfold eqN at h
  split at h <;> (try (cases h;done))
  split at h <;> (try (cases h;done))
  rename_i hc
  cases h;cases hx;cases hy
  have : ∃ z, yo = .const z := by unfold zDq at hc; split at hc; · exact ⟨_, rfl⟩
                                  .cases hc
  obtain⟨z,rfl⟩:=this
  refine⟨by rw[e0];simp[Op.equalIn,yi hT hu],guard fun op=>?_,rfl,rfl⟩
  cases op <;> simp[eqGuard]
 .rename_i fs hu
  unfold eqA at h
  split at h <;> (try (cases h;done))
  rename_i a b c d
  split at h <;> (try (cases h;done))
  rename_i hq
  cases h
  cases hx with|a _ vs hv=>
  cases hy with|a _ vs' hv'=>
  have two:∀ {x y:Int} {q:Array Value},zm γ [.i .i64 x,.i .i64 y] q.toList->q=#[.int .i64 x,.int .i64 y]:=by
   intro x y q hq
   obtain⟨u,v,e,h1,h3⟩:=hq.two_inv
   cases h1;cases h3
   exact Array.ext' e
  have e1:=two hv
  subst e1
  have e2:=two hv'
  subst e2
  have hh:=h2 t hq a b c d w
  rw[zaQ,zaQ]
  exact⟨hh.1,fun op=>hh.2 op xo yo,rfl,rfl⟩
 .cases h
theorem OM.cObj{id e n:Nat}{t:Tr BV}(r:Rel C γ h w)(ho:h.get id=.c e n t){g:G}(hg:γ id=some g):∃ vs,w.heap[g.b]?=some (.cells vs e (0,0))/\n<=vs.size/\vs.size=g.C*g.k/\
 ∀ j,j<n->w.cell? ⟨g.b,j,none⟩=some (vs.getD j undef)/\zf γ (t.get j) (vs.getD j undef)/\(vs.getD j undef).oneCell'=true:=by
 have:=r.ob id
 rw[ho]at this
 obtain⟨g',vs,h1,h2,h3,h4,h5⟩:=this
 rw[hg]at h1;cases h1
 refine⟨vs,h2,h3,h4,fun j hj=>⟨?_,h5 j hj⟩⟩
 rw[cell_of_row w g.b j vs e (0,0) h2,Array.getD_eq_getD_getElem?,Array.getElem?_eq_getElem (by omega)];rfl
theorem OM.bObj{id e fz n c:Nat}(r:Rel C γ h w)(ho:h.get id=.bs e fz n c){g:G}(hg:γ id=some g):∃ vs m,w.heap[g.b]?=some (.cells vs e m)/\g.k=1/\vs.size=g.C/\n<=vs.size/\zmo fz m n vs.size/\
 (∀ j,j<n->vs[j]?=some (zq c j))/\∀ j,j<n->w.cell? ⟨g.b,j,none⟩=some (zq c j):=by
 have:=r.ob id
 rw[ho]at this
 obtain⟨g',vs,m,h1,h2,h3,h4,h5,h6,h7⟩:=this
 rw[hg]at h1;cases h1
 refine⟨vs,m,h2,h3,h4,h5,h6,h7,fun j hj=>?_⟩
 rw[cell_of_row w g.b j vs e m h2];exact h7 j hj
theorem zqF{t:Tr BV}{n off k:Nat}{f:Nat->Value}(hf:∀ j,j<n->zf γ (t.get j) (f j))(hn:off+k<=n):zm γ (t.gets off k) ((List.range k).map fun j=>f (off+j)):=by
 refine zm.of_get (by simp[Tr.gets_length]) fun i x v hx hv=>?_
 have hi:i<k:=by
  rcases Nat.lt_or_ge i k with h|h
  .exact h
  .rw [List.getElem?_eq_none (by rw[Tr.gets_length];exact h)]at hx;cases hx
 rw[Tr.gets_get _ _ _ _ hi]at hx
 simp[hi]at hv
 cases hx;subst hv
 exact hf _ (by omega)
theorem zkg(hT:TyOk S){t:TypeId}{o:Option Nat}(h:wid S t=some o):(∃ k,o=some k/\(∀ w,(isAgg t).run S.P w=.ok true w)/\∀ w,(sizeOf t).run S.P w=.ok k w)\/(o=none/\∀ w,(isAgg t).run S.P w=.ok false w):=by
 unfold wid at h
 split at h
 .rename_i ha
  split at h
  .rename_i k hk;cases h;exact .inl ⟨k,rfl,zjX hT ha,zad hT hk⟩
  .cases h
 .rename_i ha;cases h;exact .inr ⟨rfl,zjX hT ha⟩
 .cases h
structure yC(S:zd)(C:Ctx):Prop where
 gt:∀ g l,S.gt g=some l->∃ e m,C.F g=some (.cells (l.map fun z=>Value.int .u64 (.ofNat z)).toArray e m)
 sy:∀ q t,S.sy q=some t->C.sy q=some t
 bd:∀ q a b,S.bd q=some (a,b)->∃ t,C.sy q=some t/\a<=t.length/\t.length<=b
theorem zjh(hT:TyOk S)(hG:yC S C)(r:Rel C γ h w){t:TypeId}{x v:BV}(hl:ze3 S h t x=some v){u:Value}(hx:zf γ x u):
 ∃ z,(Instr.loadAt t u).run S.P w=.ok z w/\zf γ v z:=by
 cases x <;> simp only[ze3]at hl <;> (try (cases hl;done))
 case p id off=>
  cases hx with|p _ _ g hg=>
  cases ho:h.get id <;> rw[ho]at hl <;> simp only[zDj]at hl <;> (try (cases hl;done))
  case c e n tr=>
   obtain⟨vs,hh,hn,_,hc⟩:=OM.cObj r ho hg
   unfold zDl at hl
   cases hw:wid S t with
   | none=>rw[hw]at hl;cases hl
   | some o=>
    rw[hw]at hl
    rcases zkg hT hw with⟨k,rfl,ha,hs⟩|⟨rfl,ha⟩
    .unfold zDz at hl
     obtain⟨hb,rfl⟩:=zdE hl
     have hb:off+k<=n:=Nat.le_of_ble_eq_true hb
     have hcl:=run_loadCells (P:=S.P) w ⟨g.b,off,none⟩ k (fun j=>vs.getD (off+j) undef) (fun j hj=>by rw[zC];exact(hc _ (by omega)).1)
     refine⟨_,by simp[Instr.loadAt,Instr.sureAddr,loadVar,ha,hs,hcl];rfl,.a _ _ ?_⟩
     exact zqF (f:=fun j=>vs[j]?.getD undef) (fun j hj=>by have:=(hc j hj).2.1;rwa [Array.getD_eq_getD_getElem?]at this) hb
    .unfold zDA at hl
     obtain⟨hb,rfl⟩:=zdE hl
     have hb:off<n:=zS hb
     refine⟨_,?_,(hc off hb).2.1⟩
     simp only[Instr.loadAt,Instr.sureAddr,Sem.run_bind,Sem.run_pure,Result.andThen_ok,loadVar,ha]
     simp[run_load,(hc off hb).1]
  case bs e fz n c=>
   obtain⟨vs,m,hh,_,_,hn,_,_,hc⟩:=OM.bObj r ho hg
   unfold zDm at hl
   split at hl
   .rename_i hw
    rcases zkg hT hw with⟨k,hk,_⟩|⟨_,ha⟩
    .cases hk
    .split at hl
     .rename_i hb;cases hl
      have hb:off<n:=zS hb
      refine⟨_,?_,.i _ _⟩
      simp only[Instr.loadAt,Instr.sureAddr,Sem.run_bind,Sem.run_pure,Result.andThen_ok,loadVar,ha]
      simp[run_load,hc off hb,zq]
     .cases hl
   .cases hl
 case g gg off=>
  cases hx
  unfold zDk at hl
  split at hl
  .rename_i l hw hgt
   split at hl
   .rename_i z hz;cases hl
    rcases zkg hT hw with⟨k,hk,_⟩|⟨_,ha⟩
    .cases hk
    .obtain ⟨e,m,hF⟩:=hG.gt _ _ hgt
     have hh:=r.fr _ _ hF
     have hc:w.cell? ⟨gg,off,none⟩=some (.int .u64 (.ofNat z)):=by
      rw[cell_of_row w gg off _ e m hh];simp[hz]
     refine⟨_,?_,.i _ _⟩
     simp only[Instr.loadAt,Instr.sureAddr,Sem.run_bind,Sem.run_pure,Result.andThen_ok,loadVar,ha]
     simp[run_load,hc]
   .cases hl
  .cases hl
theorem zbY{x:BV}{n:Nat}(h:zmm x=some n){v:Value}(hx:zf γ x v):∃ k,v=.int k (.ofNat n):=by
 cases x <;> simp only[zmm]at h <;> (try (cases h;done))
 rename_i k m
 cases hx
 cases m with
 | ofNat m=>cases h;exact⟨k,rfl⟩
 | negSucc m=>cases h
def zg0(γ:Nat->Option G):Option BV->Option Value->Prop
 | none,none=>True
 | some x,some v=>zf γ x v
 | _,_=>False
theorem zbJ(hs:yF γ σ a.tmps)(x:Option Operand):zg0 γ (zjP σ x) (x.map a.eval):=by
 cases x with
 | none=>trivial
 | some x=>exact zo hs x
theorem za4{x:BV}{n y:Nat}(hn:zmm x=some n)(hy:n<=y){v:Value}(hx:zf γ x v)(c:BoundsCode)(w:World):(Instr.sliceBound v y c).run P w=.ok n w:=by
 obtain⟨k,rfl⟩:=zbY hn hx
 simp only[Instr.sliceBound,asIntOf,Sem.run_bind,Sem.run_pure,Result.andThen_ok]
 rw[if_pos (by simp;omega)]
 rfl
theorem yZ{len cap:Nat}{lo hi mx:Option BV}{l hh m:Nat}(hb:zde len cap lo hi mx=some (l,hh,m)){lo' hi' mx':Option Value}(h1:zg0 γ lo lo')(h2:zg0 γ hi hi')(h3:zg0 γ mx mx')
 (isS:Bool) (w:World):(Instr.sliceBounds isS len cap lo' hi' mx').run P w=.ok (l,hh,m) w/\l<=hh/\hh<=m/\m<=cap/\(mx=none->m=cap)/\(hi=none->hh=len)/\(lo=none->l=0):=by
 unfold zde at hb
 split at hb
 .rename_i l1 h1' m1 e1 e2 e3
  split at hb
  .rename_i hc
   cases hb
   simp only[Bool.and_eq_true]at hc
   obtain⟨hf,c1,c2,c3⟩:=hc
   have c1:l<=hh:=Nat.le_of_ble_eq_true c1
   have c2:hh<=m:=Nat.le_of_ble_eq_true c2
   have c3:m<=cap:=Nat.le_of_ble_eq_true c3
   refine⟨?_,c1,c2,c3,fun e=>by subst e;cases e3;rfl,fun e=>by subst e;cases e2;rfl,fun e=>by subst e;cases e1;rfl⟩
   cases mx with
   | none=>
    cases mx' with
    | some _=>exact h3.elim
    | none=>
     cases e3
     cases hi with
     | none=>
      cases hi' with
      | some _=>exact h2.elim
      | none=>
       cases e2
       cases lo with
       | none=>cases lo' with
        | some _=>exact h1.elim
        | none=>cases e1;simp[Instr.sliceBounds]
       | some x=>cases lo' with
        | none=>exact h1.elim
        | some v=>simp[Instr.sliceBounds,za4 (P:=P) e1 c1 h1]
     | some y=>
      cases hi' with
      | none=>exact h2.elim
      | some v2=>
       cases lo with
       | none=>cases lo' with
        | some _=>exact h1.elim
        | none=>cases e1;simp[Instr.sliceBounds,za4 (P:=P) e2 c2 h2]
       | some x=>cases lo' with
        | none=>exact h1.elim
        | some v=>simp[Instr.sliceBounds,za4 (P:=P) e1 c1 h1,za4 (P:=P) e2 c2 h2]
   | some z=>
    cases mx' with
    | none=>exact h3.elim
    | some v3=>
     cases hi with
     | none=>cases hf
     | some y=>
      cases hi' with
      | none=>exact h2.elim
      | some v2=>
       cases lo with
       | none=>cases lo' with
        | some _=>exact h1.elim
        | none=>cases e1;simp[Instr.sliceBounds,za4 (P:=P) e2 c2 h2,za4 (P:=P) e3 c3 h3]
       | some x=>cases lo' with
        | none=>exact h1.elim
        | some v=>simp[Instr.sliceBounds,za4 (P:=P) e1 c1 h1,za4 (P:=P) e2 c2 h2,za4 (P:=P) e3 c3 h3]
  .cases hb
 .cases hb
theorem zgU{len cap cap':Nat}{lo hi mx:Option BV}{l hh m:Nat}(hb:zde len cap lo hi mx=some (l,hh,m))(hc:cap<=cap'):zde len cap' lo hi mx=some (l,hh,if mx=none then cap' else m):=by
 unfold zde at hb ⊢
 split at hb
 .rename_i l1 h1 m1 e1 e2 e3
  split at hb
  .rename_i hcc
   cases hb
   simp only[Bool.and_eq_true]at hcc
   obtain⟨c0,c1,c2,c3⟩:=hcc
   have c2:hh<=m:=Nat.le_of_ble_eq_true c2
   have c3:m<=cap:=Nat.le_of_ble_eq_true c3
   rw[e1,e2]
   cases mx with
   | none=>
    cases e3
    simp only[zqf,c0,c1,Bool.true_and,if_true]
    rw[Nat.ble_eq_true_of_le (show hh<=cap' by omega),Nat.ble_eq_true_of_le (Nat.le_refl cap')]
    rfl
   | some v=>
    have e3':zqf cap' (some v)=some m:=e3
    rw[e3']
    dsimp only
    rw[c0,c1,Nat.ble_eq_true_of_le c2,Nat.ble_eq_true_of_le (show m<=cap' by omega)]
    rfl
  .cases hb
 .cases hb
theorem run_sliceAt_slice{t e:TypeId}(hu:P.underlying t=some (.slice e))(x:Value)(lo hi mx:Option Value)(w:World):(Instr.sliceAt t x lo hi mx).run P w=(Instr.slice t x lo hi mx).run P w:=by
 simp[Instr.sliceAt,run_underlying hu]
theorem run_slice_l{t e k:Nat}(hu:P.underlying t=some (.slice e))(hk:(sizeOf e).run P w=.ok k w)(ad:Option Addr)(len cap:Nat){lo hi mx:Option Value}{l hh m:Nat}(hb:(Instr.sliceBounds true len cap lo hi mx).run P w=.ok (l,hh,m) w):
 (Instr.sliceAt t (.slice ad len cap) lo hi mx).run P w=.ok (.slice (if m=l then ad else ad.map (·.add (l*k))) (hh-l) (m-l)) w:=by
 rw[run_sliceAt_slice hu]
 simp[Instr.slice,run_underlying hu,hb,hk]
theorem zpo(k off l m b:Nat):(if m=l then(some ⟨b,off,none⟩:Option Addr) else(some ⟨b,off,none⟩:Option Addr).map (·.add (l*k)))=some ⟨b,adv k off l m,none⟩:=by
 unfold adv
 cases hb:Nat.beq m l with
 | true=>rw[if_pos (Nat.eq_of_beq_eq_true hb)]
 | false=>rw[if_neg (Nat.ne_of_beq_eq_false hb)];simp only[Option.map_some,zC];rfl
theorem zoj(hT:TyOk S)(r:Rel C γ h w){t:TypeId}{x:BV}{lo hi mx:Option BV}{v:BV}(hv:zr6 S t x lo hi mx=some v){u:Value}(hx:zf γ x u){lo' hi' mx':Option Value}
 (h1:zg0 γ lo lo') (h2:zg0 γ hi hi') (h3:zg0 γ mx mx'):∃ z,(Instr.sliceAt t u lo' hi' mx').run S.P w=.ok z w/\zf γ v z:=by
 have listL:∀ {k id off len cap:Nat} {e:TypeId},S.P.underlying t=some (.slice e)->sz S e=some k->zig k id off len cap lo hi mx=some v->∀ g,γ id=some g->∀ cap',(∀ l hh m,zde len cap lo hi mx=some (l,hh,m)->(Instr.sliceBounds true len cap' lo' hi' mx').run S.P w=.ok (l,hh,m) w)->
  ∃ z,(Instr.sliceAt t (.slice (some ⟨g.b,off,none⟩) len cap') lo' hi' mx').run S.P w=.ok z w/\zf γ v z:=by
  intro k id off len cap e hu hk hs g hg cap' hrun
  unfold zig at hs
  split at hs
  .rename_i l hh m hb
   cases hs
   have hb':=yZ (P:=S.P) hb h1 h2 h3 true w
   refine⟨_,run_slice_l hu (zad hT hk w) _ _ _ (hrun _ _ _ hb),?_⟩
   rw[zpo]
   exact .sl id _ _ _ g hg (by show hh-l<=m-l;omega)
  .cases hs
 cases x <;> simp only[zr6]at hv <;> (try (cases hv;done))
 case s n c=>
  split at hv
  .rename_i ht
   cases hx with|s _ _ hc=>
   have hu:=zb1 hT ht
   unfold zxL at hv
   cases mx with
   | some _=>cases hv
   | none=>
    cases mx' with
    | some _=>exact h3.elim
    | none=>
     dsimp only at hv
     split at hv
     .rename_i l hh m hb
      cases hv
      obtain⟨hb1,hb2,hb3,hb4,hb5,_⟩:=yZ (P:=S.P) hb h1 h2 h3 false w
      have hm:=hb5 rfl
      refine⟨za1 (hh-l) (zic c l (hh-l)),?_,.s _ _ (zn9 _ _ _)⟩
      have hu':(underlying t).run S.P w=.ok .string w:=run_underlying hu w
      have e1:(⟨(dec n c).toArray⟩:ByteArray).size=n:=za0 n c
      simp only[Instr.sliceAt,Sem.run_bind,hu',Result.andThen_ok,Instr.slice,za1,e1,hb1,Sem.run_pure,Option.isSome_none,Bool.false_eq_true,if_false]
      congr 2
      rw[zo8 n c l (hh-l) (by omega)]
      apply ByteArray.ext
      simp[ByteArray.data_extract]
     .cases hv
  .cases hv
 case ns=>
  split at hv
  .rename_i k p hk hb
   obtain⟨l,hh,m⟩:=p
   cases hv;cases hx
   obtain⟨e,hu,hs⟩:=zav hT hk
   obtain⟨hb1,hb2,hb3,hb4,_⟩:=yZ (P:=S.P) hb h1 h2 h3 true w
   refine⟨_,run_slice_l hu (zad hT hs w) none 0 0 hb1,?_⟩
   have e1:m=0:=by omega
   have e2:l=0:=by omega
   have e3:hh=0:=by omega
   subst e1;subst e2;subst e3
   exact .ns
  .cases hv
 case sl id off len cap=>
  split at hv
  .rename_i k hk
   obtain⟨e,hu,hs⟩:=zav hT hk
   cases hx with|sl _ _ _ _ g hg hc=>
   exact listL hu hs hv g hg cap fun l hh m hb=>(yZ (P:=S.P) hb h1 h2 h3 true w).1
  .cases hv
 case sg k id off len=>
  split at hv
  .rename_i k' hk
   split at hv
   .rename_i hkk
    have hkk:=Nat.eq_of_beq_eq_true hkk
    subst hkk
    obtain⟨e,hu,hs⟩:=zav hT hk
    cases hx with|sg _ _ _ _ g o hg hk1 h0 ho hc=>
    have hle:len<=g.C-o:=by omega
    unfold zxM at hv
    split at hv
    .cases mx' with
     | some _=>exact h3.elim
     | none=>
     split at hv
     .rename_i l hh m hb
      obtain⟨_,b1,b2,b3,b4,_⟩:=yZ (P:=S.P) hb h1 h2 h3 true w
      have hrun:=(yZ (P:=S.P) (zgU hb hle) h1 h2 h3 true w).1
      have hml:=b4 rfl
      refine⟨_,run_slice_l hu (zad hT hs w) _ _ _ hrun,?_⟩
      simp only[if_true]
      split at hv
      .rename_i hl
       have hl:=Nat.eq_of_beq_eq_true hl
       have hh0:hh-l=0:=by omega
       rw[hh0,zpo]
       split at hv
       .rename_i hl0
        have hl0:=Nat.eq_of_beq_eq_true hl0
        cases hv
        subst hl0
        have:adv k off 0 (g.C-o)=off:=by
         unfold adv;split
         .rfl
         .show off+0*k=off;omega
        rw[this]
        exact .sg k id off 0 g o hg hk1 h0 ho (by omega)
       .cases hv
        exact .se _ _
      .rename_i hl
       have hl:=Nat.ne_of_beq_eq_false hl
       cases hv
       rw[zpo]
       have:adv k off l (g.C-o)=off+l*k:=by
        unfold adv
        rw[show Nat.beq (g.C-o) l=false from zdI (by omega)]
        rfl
       rw[this,show g.C-o-l=g.C-(o+l) by omega]
       refine .sg k id _ _ g (o+l) hg hk1 h0 ?_ ?_
       .show off+l*k=_;rw[ho,Nat.add_mul]
       .show o+l+(hh-l)<=g.C;omega
     .cases hv
    .rename_i v3
     refine listL hu hs hv g hg (g.C-o) fun l hh m hb=>?_
     have:=(yZ (P:=S.P) (zgU hb hle) h1 h2 h3 true w).1
     simpa using this
   .cases hv
  .cases hv
 case se=>
  split at hv
  .rename_i k p hk hb
   obtain⟨l,hh,m⟩:=p
   cases hv
   obtain⟨e,hu,hs⟩:=zav hT hk
   cases hx with|se ad c=>
   cases mx' with
   | some _=>exact h3.elim
   | none=>
   obtain⟨_,b1,b2,b3,b4,_⟩:=yZ (P:=S.P) hb h1 h2 h3 true w
   have hrun:=(yZ (P:=S.P) (zgU hb (Nat.zero_le c)) h1 h2 h3 true w).1
   refine⟨_,run_slice_l hu (zad hT hs w) _ _ _ hrun,?_⟩
   have e1:l=0:=by omega
   have e2:hh=0:=by omega
   subst e1;subst e2
   simp only[if_true]
   by_cases h0:c=0
   .rw [if_pos h0];exact .se _ _
   .rw [if_neg h0];exact .se _ _
  .cases hv
 case p id off=>
  split at hv
  .rename_i n k hk
   obtain⟨e,hu,hs⟩:=zf9 hT hk
   cases hx with|p _ _ g hg=>
   unfold zig at hv
   split at hv
   .rename_i l hh m hb
    cases hv
    obtain⟨hb1,hb2,hb3,hb4,_⟩:=yZ (P:=S.P) hb h1 h2 h3 false w
    have hu':(underlying t).run S.P w=.ok (.array n e) w:=run_underlying hu w
    refine⟨.slice (some ⟨g.b,adv k off l m,none⟩) (hh-l) (m-l),?_,.sl id _ _ _ g hg (by show hh-l<=m-l;omega)⟩
    simp only[Instr.sliceAt,Sem.run_bind,hu',Result.andThen_ok,Instr.sureAddr,Sem.run_pure,hb1,zad hT hs w]
    congr 2
    have:=zpo k off l m g.b
    by_cases hml:m=l
    .rw [if_pos hml]at this ⊢;exact this
    .rw [if_neg hml]at this ⊢;exact this
   .cases hv
  .cases hv
end Go.Bm
/-! Reading, on: places, rows, conversions, maps, parts. -/
namespace Go.Bm
open Go Go.RowKit
variable {S:zd}{γ γ':Nat->Option G}{C:Ctx}{h:Hp}{w w':World}{σ:Tr BV}{a:Act}{P:Program}
theorem zfV{k b off n i:Nat}{kk:IntKind}{t e:TypeId}(hs:(sizeOf e).run P w=.ok k w)(hi:i<n)
 (hu:P.underlying t=some (.slice e)\/P.underlying t=some (.array n e)) (v:Value) (hv:(P.underlying t=some (.slice e)->∃ c,v=.slice (some ⟨b,off,none⟩) n c)/\(P.underlying t=some (.array n e)->v=.pointer (some ⟨b,off,none⟩))):
 (Instr.indexAt t v (.int kk (.ofNat i))).run P w=.ok (.pointer (some ⟨b,off+i*k,none⟩)) w:=by
 have hc:(0:Int)<=Int.ofNat i/\Int.ofNat i<(n:Int):=⟨by simp,by simp;omega⟩
 rcases hu with hu|hu
 .obtain ⟨c,rfl⟩:=hv.1 hu
  simp only[Instr.indexAt,asIntOf,Sem.run_bind,Sem.run_pure,Result.andThen_ok,run_underlying hu]
  rw[if_pos hc]
  simp only[Sem.run_bind,hs,Result.andThen_ok,Sem.run_pure,zC]
  rfl
 .have:=hv.2 hu
  subst this
  simp only[Instr.indexAt,asIntOf,Sem.run_bind,Sem.run_pure,Result.andThen_ok,run_underlying hu,Instr.sureAddr]
  rw[if_pos hc]
  simp only[Sem.run_bind,hs,Result.andThen_ok,Sem.run_pure,zC]
  rfl
theorem ziE{k:Option Nat}{id off len i:Nat}{v:BV}(h:zyZ k id off len i=some v):∃ k',k=some k'/\i<len/\v=.p id (off+i*k'):=by
 unfold zyZ at h
 split at h
 .rename_i k' hb;cases h;exact⟨k',rfl,zS hb,rfl⟩
 .cases h
theorem zmn(hT:TyOk S){t:TypeId}{x ix v:BV}(hv:zoH S t x ix=some v){u z:Value}(hx:zf γ x u)(hi:zf γ ix z):
 ∃ q,(Instr.indexAt t u z).run S.P w=.ok q w/\zf γ v q:=by
 unfold zoH at hv
 split at hv
 .cases hv
 .rename_i i hn
  obtain⟨kk,rfl⟩:=zbY hn hi
  cases x <;> simp only[idxA]at hv <;> (try (cases hv;done))
  case p id off=>
   cases hx with|p _ _ g hg=>
   unfold idxQ at hv
   split at hv
   .rename_i n k hk
    obtain⟨e,hu,hs⟩:=zf9 hT hk
    obtain⟨k',e1,hlt,rfl⟩:=ziE hv
    cases e1
    exact⟨_,zfV (zad hT hs w) hlt (.inr hu) _ ⟨fun hh=>by rw[hu]at hh;(try cases hh),fun _=>rfl⟩,.p id _ g hg⟩
   .cases hv
  case g gg off=>
   cases hx
   unfold idxG at hv
   split at hv
   .rename_i n k hk
    obtain⟨e,hu,hs⟩:=zf9 hT hk
    split at hv
    .rename_i hb;cases hv
     exact⟨_,zfV (zad hT hs w) (zS hb) (.inr hu) _ ⟨fun hh=>by rw[hu]at hh;(try cases hh),fun _=>rfl⟩,.g _ _⟩
    .cases hv
   .cases hv
  case sl id off len cap=>
   cases hx with|sl _ _ _ _ g hg hc=>
   obtain⟨k',e1,hlt,rfl⟩:=ziE hv
   obtain⟨e,hu,hs⟩:=zav hT e1
   exact⟨_,zfV (zad hT hs w) hlt (.inl hu) _ ⟨fun _=>⟨_,rfl⟩,fun hh=>by rw[hu]at hh;(try cases hh)⟩,.p id _ g hg⟩
  case sg k id off len=>
   cases hx with|sg _ _ _ _ g o hg hk h0 ho hc=>
   obtain⟨k',e1,hlt,rfl⟩:=ziE hv
   obtain⟨e,hu,hs⟩:=zav hT e1
   exact⟨_,zfV (zad hT hs w) hlt (.inl hu) _ ⟨fun _=>⟨_,rfl⟩,fun hh=>by rw[hu]at hh;(try cases hh)⟩,.p id _ g hg⟩
def yb(γ:Nat->Option G)(k n:Nat)(r:Row)(news:List Value):Prop:=
 news.length=n*k/\(∀ u ∈ news,u.oneCell'=true)/\match r with
 | .bs m c=>m=n/\(n=0\/k=1)/\c<256^n/\news=(List.range n).map (zq c)
 | .c l=>zm γ l news
theorem zaE(c n:Nat):∀ u ∈ (List.range n).map (zq c),u.oneCell'=true:=by
 intro u hu
 obtain⟨i,_,rfl⟩:=List.mem_map.1 hu
 rfl
theorem yb.nil(γ:Nat->Option G)(k:Nat):yb γ k 0 (.bs 0 0) []:=⟨by simp,(fun u h=>by cases h),rfl,.inl rfl,by simp,rfl⟩
theorem zcf(r:Rel C γ h w){k id off len:Nat}{q:Row}(hq:rowOf h k id off len=some q){g:G}(hg:γ id=some g):
 ∃ news,yb γ k len q news/\∀ (j:Nat) u,news[j]?=some u->w.cell? ⟨g.b,off+j,none⟩=some u:=by
 unfold rowOf at hq
 split at hq
 .rename_i e fz n c ho
  split at hq
  .rename_i hb
   cases hq
   rw[Bool.and_eq_true]at hb
   have hk:=Nat.eq_of_beq_eq_true hb.1
   have hn:off+len<=n:=Nat.le_of_ble_eq_true hb.2
   subst hk
   obtain⟨vs,m,hh,_,_,hns,_,hvs,hc⟩:=OM.bObj r ho hg
   refine⟨(List.range len).map (zq (zic c off len)),⟨by simp,zaE _ _,rfl,.inr rfl,zn9 _ _ _,rfl⟩,fun j u hu=>?_⟩
   have hj:j<len:=by
    rcases Nat.lt_or_ge j len with h|h
    .exact h
    .rw [List.getElem?_eq_none (by simp;exact h)]at hu;cases hu
   simp[hj]at hu
   rw[hc _ (by omega),<-hu,zq,zq,zgT _ _ _ _ hj]
  .cases hq
 .rename_i e n tr ho
  split at hq
  .rename_i hb
   cases hq
   have hn:off+len*k<=n:=Nat.le_of_ble_eq_true hb
   obtain⟨vs,hh,hns,_,hc⟩:=OM.cObj r ho hg
   refine⟨(List.range (len*k)).map (fun j=>vs.getD (off+j) undef),⟨by simp,fun u hu=>?_,zqF (f:=fun j=>vs.getD j undef) (fun j hj=>(hc j hj).2.1) hn⟩,fun j u hu=>?_⟩
   .obtain ⟨i,hi,rfl⟩:=List.mem_map.1 hu
    have hi:i<len*k:=by simpa using hi
    exact(hc _ (by omega)).2.2
   .have hj:j<len*k:=by
     rcases Nat.lt_or_ge j (len*k)with h|h
     .exact h
     .rw [List.getElem?_eq_none (by simp;exact h)]at hu;cases hu
    rw[List.getElem?_map,List.getElem?_range hj]at hu
    cases hu
    exact(hc _ (by omega)).1
  .cases hq
 .cases hq
theorem zmB(n c:Nat):byteCells ⟨(dec n c).toArray⟩=(List.range n).map (zq c):=by
 unfold byteCells dec
 simp only[List.map_map]
 apply List.map_congr_left
 intro i _
 show Value.int .u8 _=zq c i
 unfold zq
 congr 1
 show((UInt8.ofNat (zn c i)).toNat:Int)=_
 rw[zaw];rfl
theorem zab{k tx:Nat}(hk:(∃ e',P.underlying tx=some (.slice e'))\/P.underlying tx=some .string)(ad:Addr){n c:Nat}{news:List Value}(hl:news.length=n*k)
 (hc:∀ (j:Nat) u,news[j]?=some u->w.cell? (ad.add j)=some u) (h1:∀ u ∈ news,u.oneCell'=true):Src P k tx (.slice (some ad) n c) n news w:=
 ⟨hk,fun _=>rfl,run_firstCells_some w k n ad n c news hl hc,run_firstCells_some w.drew k n ad n c news hl (by simpa using hc),hl,h1⟩
theorem zt1{k tx:Nat}(hk:(∃ e',P.underlying tx=some (.slice e'))\/P.underlying tx=some .string)(c:Nat):Src P k tx (.slice none 0 c) 0 [] w:=
 ⟨hk,fun _=>rfl,run_firstCells_none w k 0 0 c,run_firstCells_none w.drew k 0 0 c,by simp,fun _ h=>by cases h⟩
theorem zt0{tx:Nat}(hk:(∃ e',P.underlying tx=some (.slice e'))\/P.underlying tx=some .string)(n c:Nat):Src P 1 tx (za1 n c) n ((List.range n).map (zq c)) w:=by
 have h1:=firstCells_string (P:=P) ⟨(dec n c).toArray⟩ w
 have h2:=firstCells_string (P:=P) ⟨(dec n c).toArray⟩ w.drew
 rw[za0,zmB]at h1 h2
 refine⟨hk,fun w'=>?_,h1,h2,by simp,zaE _ _⟩
 show Result.ok (ByteArray.size _) w'=_
 rw[za0]
theorem zsd(r:Rel C γ h w){k n tx:Nat}{q:Row}{y:BV}(hq:zgC h k y=some (n,q))(hk:(∃ e',P.underlying tx=some (.slice e'))\/P.underlying tx=some .string){v:Value}(hy:zf γ y v):
 ∃ news,Src P k tx v n news w/\yb γ k n q news:=by
 unfold zgC at hq
 split at hq <;> (try (cases hq;done))
 .cases hq;cases hy;exact⟨[],zt1 hk 0,yb.nil γ k⟩
 .cases hq;cases hy with|se ad c=>exact⟨[],zab hk ad (by simp) (fun j u hu=>by simp at hu) (fun u h=>by cases h),yb.nil γ k⟩
 .rename_i m c
  split at hq
  .rename_i hb;cases hq
   have:=Nat.eq_of_beq_eq_true hb
   subst this
   cases hy with|s _ _ hc=>exact⟨_,zt0 hk _ _,by simp,zaE _ _,rfl,.inr rfl,hc,rfl⟩
  .cases hq
 .rename_i id off len cap
  split at hq
  .rename_i q' hq'
   cases hq
   cases hy with|sl _ _ _ _ g hg hc=>
   obtain⟨news,h1,h2⟩:=zcf r hq' hg
   exact⟨news,zab hk _ h1.1 (fun j u hu=>by rw[zC];exact h2 j u hu) h1.2.1,h1⟩
  .cases hq
 .rename_i k0 id off len
  split at hq
  .rename_i q' hq'
   cases hq
   cases hy with|sg _ _ _ _ g o hg hk1 h0 ho hc=>
   obtain⟨news,h1,h2⟩:=zcf r hq' hg
   exact⟨news,zab hk _ h1.1 (fun j u hu=>by rw[zC];exact h2 j u hu) h1.2.1,h1⟩
  .cases hq
theorem zbq:∀ {l:List BV} {c:Nat},zjc l=some c->∀ {news:List Value},zm γ l news->c<256^l.length/\news=(List.range l.length).map (zq c):=by
 intro l
 induction l with
 | nil=>intro c h news hn;cases h;rw[hn.nil_inv];exact⟨by simp,rfl⟩
 | cons x l ih=>
  intro c h news hn
  unfold zjc at h
  split at h
  .rename_i heq;cases heq
  .rename_i n l' heq
   cases heq
   split at h
   .rename_i c' hb hc'
    cases h
    obtain⟨v,r',rfl,h1,h2⟩:=hn.cons_inv
    cases h1
    obtain⟨i1,i2⟩:=ih hc' h2
    have hlt:n<256:=zS hb
    refine⟨?_,?_⟩
    .rw [List.length_cons,Nat.pow_succ'];show n+256*c'<_;omega
    .rw [List.length_cons,List.range_succ_eq_map,List.map_cons,List.map_map]
     have e0:Nat.add n (Nat.mul 256 c')=n+256*c':=rfl
     rw[e0]
     congr 1
     .unfold zq
      rw[zK,Nat.pow_zero,Nat.div_one,Nat.add_mul_mod_self_left,Nat.mod_eq_of_lt hlt]
     .rw [i2]
      apply List.map_congr_left
      intro i _
      show zq c' i=zq _ (i+1)
      unfold zq
      rw[zK,zK,Nat.pow_succ',<-Nat.div_div_eq_div_mul,Nat.add_mul_div_left _ _ (by decide),Nat.div_eq_of_lt hlt,Nat.zero_add]
   .cases h
  .cases h
theorem foldl_push_bytes(l:List UInt8):∀ s:ByteArray,(l.foldl (fun s b=>s.push b) s)=⟨s.data++l.toArray⟩:=by
 induction l with
 | nil=>intro s;simp
 | cons b l ih=>intro s;rw[List.foldl_cons,ih];apply ByteArray.ext;simp[ByteArray.push]
end Go.Bm
/-! Conversions, maps, parts of values. -/
namespace Go.Bm
open Go Go.RowKit
variable {S:zd}{γ γ':Nat->Option G}{C:Ctx}{h:Hp}{w w':World}{σ:Tr BV}{a:Act}{P:Program}
theorem zv7(ns:List Int):∀ s:ByteArray,ns.foldl (fun r n=>r.push (UInt8.ofNat n.toNat)) s=⟨s.data++(ns.map fun n=>UInt8.ofNat n.toNat).toArray⟩:=by
 induction ns with
 | nil=>intro s;simp
 | cons b l ih=>intro s;rw[List.foldl_cons,ih];apply ByteArray.ext;simp[ByteArray.push]
theorem zg1(ad:Addr)(n cap c:Nat)(hc:∀ j,j<n->w.cell? (ad.add j)=some (zq c j)):(Conv.bytesToString (.slice (some ad) n cap)).run P w=.ok (za1 n c) w:=by
 have hl:=run_loadCells (P:=P) w ad n (zq c) hc
 have e:(List.range n).map (zq c)=((List.range n).map fun i=>(Int.ofNat (zn c i))).map (Value.int .u8):=by rw[List.map_map];rfl
 rw[e]at hl
 rw[Go.run_bytesToString w ad n cap _ hl,zv7]
 congr 2
 rw[List.map_map]
 apply ByteArray.ext
 show _++_=_
 have:(List.map ((fun n=>UInt8.ofNat n.toNat) ∘ fun i=>Int.ofNat (zn c i)) (List.range n))=dec n c:=rfl
 rw[this]
 simp[ByteArray.empty,ByteArray.emptyWithCapacity]
 rfl
theorem zmN{k n:Nat}{q:Row}{v:BV}(hv:zxi (some (n,q))=some v){news:List Value}(hr:yb γ 1 n q news):∃ c,v=.s n c/\c<256^n/\news=(List.range n).map (zq c):=by
 unfold zxi at hv
 split at hv
 .rename_i heq;cases heq
  obtain⟨_,_,rfl,_,h1,h2⟩:=hr
  cases hv
  exact⟨_,rfl,h1,h2⟩
 .rename_i heq;cases heq
  split at hv
  .rename_i l _ c hc
   cases hv
   obtain⟨h1,_,h2⟩:=hr
   obtain⟨h3,h4⟩:=zbq hc h2
   have:l.length=n:=by have:=h2.length;omega
   rw[this]at h3 h4
   exact⟨c,rfl,h3,h4⟩
  .cases hv
 .rename_i heq;cases heq
theorem zre(hT:TyOk S)(r:Rel C γ h w){s d:TypeId}{x v:BV}(hd:und S d=some .string)(hv:zjw S h s x=some v){u:Value}(hx:zf γ x u):
 ∃ z,(convert s d u).run S.P w=.ok z w/\zf γ v z:=by
 have hd':=zB hT hd
 unfold zjw at hv
 split at hv
 .rename_i hu
  split at hv
  .cases hv
   cases hx with|s n c hc=>
   exact⟨za1 _ _,by simp[convert,za1,run_underlying hd',yi hT hu],.s _ _ hc⟩
  .cases hv
 .rename_i e hu
  have hu':=zB hT hu
  split at hv
  .rename_i h8
   have h8':=zfT hT h8
   have hrun:∀ (ad:Option Addr) (n c:Nat),(convert s d (.slice ad n c)).run S.P w=(Conv.bytesToString (.slice ad n c)).run S.P w:=fun ad n c=>by
    simp[convert,run_underlying hd',run_underlying hu',run_underlying h8']
   split at hv
   .cases hv
   .rename_i hns
    cases hq:zgC h 1 x with
    | none=>rw[hq]at hv;cases hv
    | some p=>
     obtain⟨n,q⟩:=p
     rw[hq]at hv
     cases x <;> simp only[zgC]at hq <;> (try (cases hq;done))
     case s n c=>exact absurd rfl (hns _ _)
     case ns=>
      cases hq;cases hx;cases hv
      exact⟨za1 0 0,by rw[hrun];rfl,.s 0 0 (by simp)⟩
     case se=>
      cases hq;cases hv
      cases hx with|se ad c=>
      exact⟨za1 0 0,by rw[hrun];exact zg1 ad 0 c 0 (fun j hj=>by omega),.s 0 0 (by simp)⟩
     case sl id off len cap=>
      split at hq
      .rename_i q' hq'
       cases hq
       cases hx with|sl _ _ _ _ g hg hc=>
       obtain⟨news,h1,h2⟩:=zcf r hq' hg
       obtain⟨c,rfl,h3,h4⟩:=zmN (k:=1) hv h1
       refine⟨_,(hrun _ _ _).trans (zg1 _ _ cap c fun j hj=>?_),.s _ _ h3⟩
       rw[zC];exact h2 j _ (by rw[h4];simp[hj])
      .cases hq
     case sg k id off len=>
      split at hq
      .rename_i q' hq'
       cases hq
       cases hx with|sg _ _ _ _ g o hg hk h0 ho hc=>
       obtain⟨news,h1,h2⟩:=zcf r hq' hg
       obtain⟨c,rfl,h3,h4⟩:=zmN (k:=1) hv h1
       refine⟨_,(hrun _ _ _).trans (zg1 _ _ _ c fun j hj=>?_),.s _ _ h3⟩
       rw[zC];exact h2 j _ (by rw[h4];simp[hj])
      .cases hq
  .cases hv
 .cases hv
theorem zse(zwa:TypeId->Bool):∀ (d e c c' off n:Nat),c<=c'->rowAt P zwa d e c off n=true->rowAt P zwa d e c' off n=true:=by
 intro d e c c' off n hc h
 cases d with
 | zero=>cases h
 | succ d=>
  simp only[rowAt]at h ⊢
  by_cases hs:P.cellsOf e=0
  .simp [hs]at h
  .simp only[hs,if_false,Bool.or_eq_true,Bool.and_eq_true,decide_eq_true_eq,beq_iff_eq]at h ⊢
   rcases h with⟨⟨h1,h2⟩,h3⟩|⟨h1,h2⟩
   .exact .inl ⟨⟨h1,by omega⟩,h3⟩
   .exact .inr ⟨by omega,h2⟩
theorem zqt:∀ (d e c c' off u n:Nat),c<=c'->liesAt P d e c off u n=true->liesAt P d e c' off u n=true:=by
 intro d
 induction d with
 | zero=>intro e c c' off u n hc h;cases h
 | succ d ih=>
  intro e c c' off u n hc h
  simp only[liesAt,Bool.or_eq_true]at h ⊢
  rcases h with h|h
  .exact .inl (zse _ _ _ _ _ _ _ hc h)
  .refine .inr ?_
   split at h
   .exact ih _ _ _ _ _ _ hc h
   .cases h
theorem zrd(hT:TyOk S)(hL:∀ e off u,S.lies e off u=true->liesAt S.P S.P.depth e 1 off u 1=true)(r:Rel C γ h w){s d:TypeId}{x v:BV}(hv:zjv S h s d x=some v){u:Value}(hx:zf γ x u):
 ∃ z,(convert s d u).run S.P w=.ok z w/\zf γ v z:=by
 unfold zjv at hv
 split at hv
 .rename_i k hd
  split at hv
  .rename_i k0 hs
   unfold zDx at hv
   split at hv
   .cases hv;cases hx
    exact⟨_,by simp[convert,yi hT hd,yi hT hs,Conv.intToInt];rfl,by rw[zkf];exact .i _ _⟩
   .cases hv
  .cases hv
 .rename_i hd;exact zre hT r hd hv hx
 .rename_i hd
  split at hv
  .rename_i e hs
   unfold zzV at hv
   split at hv
   .rename_i id off
    split at hv
    .rename_i ee n tr k ho hk
     split at hv
     .rename_i hb;cases hv
      cases hx with|p _ _ g hg=>
      obtain⟨vs,hh,hn,_,hc⟩:=OM.cObj r ho hg
      refine⟨_,run_convert_to_unsafe (zB hT hs) (zB hT hd) ?_ (hc off (zS hb)).1,.p _ _ g hg⟩
      unfold sz at hk
      split at hk
      .rename_i i hi;rw[hT.ty _ _ hi];have:=Option.some.inj hk;simp;omega
      .cases hk
     .cases hv
    .cases hv
   .cases hv
  .cases hv
 .rename_i ue hd
  split at hv
  .rename_i hs
   unfold zzW at hv
   split at hv
   .rename_i id off
    split at hv
    .rename_i ee n tr ho
     split at hv
     .rename_i k ku hk hku hl
      split at hv
      .rename_i hb;cases hv
       rw[Bool.and_eq_true]at hb
       have hb1:1<=k:=Nat.le_of_ble_eq_true hb.1
       have hb2:k<=n:=Nat.le_of_ble_eq_true hb.2
       cases hx with|p _ _ g hg=>
       obtain⟨vs,hh,hn,_,hc⟩:=OM.cObj r ho hg
       have hsh:w.shape? g.b=some (ee,vs.size):=by unfold World.shape?;rw[hh]
       have hco:S.P.cellsOf ee=k:=by
        unfold Program.cellsOf
        unfold sz at hk
        split at hk
        .rename_i i hi;rw[hT.ty _ _ hi];cases hk;rfl
        .cases hk
       have hlies:liesAt S.P S.P.depth ee (vs.size/S.P.cellsOf ee) off ue 1=true:=by
        refine zqt _ _ 1 _ _ _ _ ?_ (hL _ _ _ hl)
        rw[hco,Nat.le_div_iff_mul_le (by omega)];omega
       refine⟨.pointer (some ⟨g.b,off,none⟩),?_,.p _ _ g hg⟩
       have hv0:(viewAt g.b).run S.P w=.ok none w:=by simp[viewAt,hsh]
       have hse:(Conv.seenAt ⟨g.b,off,none⟩).run S.P w=.ok ⟨g.b,off,none⟩ w:=by simp[Conv.seenAt,hv0]
       have hva:(variablesAt ⟨g.b,off,none⟩ ue 1).run S.P w=.ok true w:=by simp[variablesAt,hsh,hlies]
       have hd':=yi hT hd w
       have hs':=yi hT hs w
       simp only[convert,Sem.run_bind,hd',hs',Result.andThen_ok,Conv.unsafePointer,hse]
       simp only[zad hT hku w,Result.andThen_ok]
       simp[hva]
      .cases hv
     .cases hv
    .cases hv
   .cases hv
  .cases hv
 .cases hv
end Go.Bm
/-! Maps, parts of values, filling. -/
namespace Go.Bm
open Go Go.RowKit
variable {S:zd}{γ γ':Nat->Option G}{C:Ctx}{h:Hp}{w w':World}{σ:Tr BV}{a:Act}{P:Program}
theorem zxE{n c m d:Nat}(hc:c<256^n)(hd:d<256^m):((⟨(dec n c).toArray⟩:ByteArray)==⟨(dec m d).toArray⟩)=eqS n c m d:=by
 rw[zsY hc hd]
 show((dec n c).toArray==(dec m d).toArray)=_
 by_cases h:dec n c=dec m d
 .rw [h];simp
 .have h1:(dec n c==dec m d)=false:=by simpa using h
  rw[h1]
  simpa using h
def zAy(d:TypeDesc):BV->Prop
 | .i _ _=>∃ k,d=.int k
 | .s _ _=>d=.string
 | _=>False
theorem zlj(hT:TyOk S){t:TypeId}{k:BV}(h:zuv S t k=true):∃ d,S.P.underlying t=some d/\zAy d k:=by
 unfold zuv at h
 split at h
 .rename_i hu;exact⟨_,zB hT hu,_,rfl⟩
 .rename_i hu;exact⟨_,zB hT hu,rfl⟩
 .cases h
theorem zkJ{d:TypeDesc}{x y:BV}{r:Bool}(h:yK x y=some r)(hd:zAy d x){u v:Value}(hx:zf γ x u)(hy:zf γ y v):Instr.sameNow d u v=some r:=by
 unfold yK at h
 split at h
 .split at h
  .rename_i hk
   have:=zgp hk
   subst this
   cases h;cases hx;cases hy
   obtain⟨k,rfl⟩:=hd
   simp[Instr.sameNow,zaQ]
  .cases h
 .cases h
  cases hx with|s _ _ hc=>
  cases hy with|s _ _ hc'=>
  have:d=.string:=hd
  subst this
  simp only[Instr.sameNow,za1]
  rw[zxE hc hc']
 .cases h
theorem zsZ{x y:BV}(h:yK x y=some true):x=y:=by
 unfold yK at h
 split at h
 .rename_i k a k' b
  split at h
  .rename_i hk
   have:=zgp hk
   subst this
   have h:=Option.some.inj h
   rw[zaQ]at h
   have:a=b:=by simpa using h
   rw[this]
  .cases h
 .have h:=Option.some.inj h
  unfold eqS at h
  rw[Bool.and_eq_true]at h
  rw[Nat.eq_of_beq_eq_true h.1,Nat.eq_of_beq_eq_true h.2]
 .cases h
theorem zb4{k:BV}:∀ {l:List (BV×BV)},zeJ k l=some none->∀ y ∈ l,yK k y.1=some false
 | [],_,y,hy=>by cases hy
 | x::l,h,y,hy=>by
  obtain⟨k',v⟩:=x
  unfold zeJ at h
  split at h
  .cases h
  .rename_i he
   rcases List.mem_cons.1 hy with rfl|hy
   .exact he
   .exact zb4 h y hy
  .cases h
theorem zlz{k v:BV}:∀ {l:List (BV×BV)},zeJ k l=some (some v)->(k,v) ∈ l
 | [],h=>by cases h
 | x::l,h=>by
  obtain⟨k',v'⟩:=x
  unfold zeJ at h
  split at h
  .rename_i he;cases h;rw[zsZ he];simp
  .exact List.mem_cons_of_mem _ (zlz h)
  .cases h
theorem ziK{d:TypeDesc}{k:BV}{u:Value}(hd:zAy d k)(hu:zf γ k u):∀ {l:List (BV×BV)} {es:List MapEntry},zak γ l es->(∀ y ∈ l,yK k y.1=some false)->∀ i,Instr.findNow d u es i=some none
 | [],[],_,_,i=>rfl
 | x::l,e::es,h,hk,i=>by
  obtain⟨h1,h2,h3⟩:=h
  simp only[Instr.findNow,zkJ (hk x (by simp)) hd hu h1]
  exact ziK hd hu h3 (fun y hy=>hk y (by simp[hy])) (i+1)
 | [],_::_,h,_,_=>h.elim
 | _::_,[],h,_,_=>h.elim
theorem zs0{k x:BV}{b:Bool}(h:yK k x=some b):yK k k=some true:=by
 unfold yK at h
 split at h
 .simp [yK,zaQ]
 .simp [yK,eqS]
 .cases h
theorem ziN{x k:BV}(hf:yK x k=some false):yK k x=some false:=by
 cases x <;> cases k <;> (try (cases hf;done))
 .rename_i k1 a1 k2 a2
  simp only[yK]at hf ⊢
  split at hf
  .rename_i hk
   have hk:=zgp hk
   subst hk
   have hf:=Option.some.inj hf
   rw[zaQ]at hf
   have hne:¬ a1=a2:=by simpa using hf
   simp[zaQ];omega
  .cases hf
 .rename_i n c m d
  simp only[yK]at hf ⊢
  have hq:(Nat.beq n m&&Nat.beq c d)=false:=Option.some.inj hf
  simp only[eqS,Option.some.injEq]
  cases h1:Nat.beq n m with
  | true=>
   rw[h1]at hq
   have:=Nat.eq_of_beq_eq_true h1
   subst this
   have hcd:c≠d:=Nat.ne_of_beq_eq_false (by rw[Bool.true_and]at hq;exact hq)
   rw[zdI (Ne.symm hcd)];simp
  | false=>
   have:=Nat.ne_of_beq_eq_false h1
   rw[zdI (Ne.symm this)];rfl
theorem znu{d:TypeDesc}{k v:BV}{u:Value}(hd:zAy d k)(hu:zf γ k u):∀ {l:List (BV×BV)} {es:List MapEntry},zak γ l es->zfq l->(k,v) ∈ l->(∀ y ∈ l,yK y.1 k≠none)->∀ i,∃ j z,Instr.findNow d u es i=some (some (j,z))/\zf γ v z
 | [],[],_,_,hm,_,i=>by cases hm
 | x::l,e::es,h,ha,hm,hn,i=>by
  obtain⟨h1,h2,h3⟩:=h
  rcases List.mem_cons.1 hm with rfl|hm
  .have hr:yK k k=some true:=by
    have:=hn (k,v) (by simp)
    cases hq:yK k k with
    | none=>exact absurd hq this
    | some b=>rw[<-hq];exact zs0 hq
   exact⟨i,e.val,by simp only[Instr.findNow,zkJ hr hd hu h1],h2⟩
  .have hf:yK x.1 k=some false:=ha.1 (k,v) hm
   have hf':yK k x.1=some false:=ziN hf
   obtain⟨j,z,h4,h5⟩:=znu hd hu h3 ha.2 hm (fun y hy=>hn y (by simp[hy])) (i+1)
   exact⟨j,z,by simp only[Instr.findNow,zkJ hf' hd hu h1];exact h4,h5⟩
 | [],_::_,h,_,_,_,_=>h.elim
 | _::_,[],h,_,_,_,_=>h.elim
theorem zhb{K:TypeId}{d:TypeDesc}{k:BV}{u:Value}(hK:P.underlying K=some d)(hd:zAy d k)(hu:zf γ k u)(b:Bool)(w:World):(Instr.checkKey b 10000 K u).run P w=.ok () w:=by
 have:∃ n,(10000:Nat)=n+1:=⟨9999,rfl⟩
 obtain⟨n,hn⟩:=this
 rw[hn]
 cases k <;> (try exact hd.elim)
 case i kk m=>obtain⟨q,rfl⟩:=hd;cases hu;simp only[Instr.checkKey,Sem.run_bind,run_underlying hK,Result.andThen_ok,Sem.run_pure]
 case s n' c=>have hd:d=.string:=hd;subst hd;cases hu;simp only[Instr.checkKey,za1,Sem.run_bind,run_underlying hK,Result.andThen_ok,Sem.run_pure]
theorem zi7{K:TypeId}{d:TypeDesc}(hK:P.underlying K=some d){v:Value}{es:List MapEntry}{r:Option (Nat×Value)}(h:Instr.findNow d v es 0=some r)(w:World):(Instr.findKey K v es).run P w=.ok r w:=by
 simp only[Instr.findKey,Sem.run_bind,run_underlying hK,Result.andThen_ok,h,Sem.run_pure]
theorem zbp{b:Nat}{es:Array MapEntry}{c:Nat}(h:w.heap[b]?=some (.map es c)):(getObj b).run P w=.ok (.map es c) w:=by
 simp[getObj,Sem.run,h]
theorem OM.mObj{id:Nat}{l:List (BV×BV)}(r:Rel C γ h w)(ho:h.get id=.mp l){g:G}(hg:γ id=some g):∃ es cl l',w.heap[g.b]?=some (.map es cl)/\l'.Perm l/\zak γ l' es.toList/\zfq l':=by
 have:=r.ob id
 rw[ho]at this
 obtain⟨g',es,cl,l',h1,h2⟩:=this
 rw[hg]at h1;cases h1
 exact⟨es,cl,l',h2⟩
theorem zqs(hT:TyOk S)(r:Rel C γ h w){t:TypeId}{x k v:BV}{ok:Bool}(hv:zng S h t x k ok=some v){u z:Value}(hx:zf γ x u)(hk:zf γ k z):
 ∃ q,(Instr.lookup t u z ok).run S.P w=.ok q w/\zf γ v q:=by
 unfold zng at hv
 split at hv
 .rename_i kt e l hu hm
  have hu:=zB hT hu
  split at hv
  .rename_i hko
   obtain⟨d,hd1,hd2⟩:=zlj hT hko
   have base:∃ (es:Array MapEntry) (l':List (BV×BV)),(∀ (f:Array MapEntry->Sem Value),((do
    let es <-match u with
     | .map none=>pure #[]
     | .map (some r)=>do
      let .map es _ <-getObj r|stuck "Lookup: map expected"
      pure es
     | _=>stuck "Lookup: map expected"
    f es):Sem Value).run S.P w=(f es).run S.P w)/\l'.Perm l/\zak γ l' es.toList/\zfq l':=by
    unfold zqq at hm
    split at hm
    .cases hm;cases hx
     exact⟨#[],[],fun f=>by simp,.refl _,trivial,trivial⟩
    .split at hm
     .rename_i id _ l0 ho
      cases hm
      cases hx with|m _ g hg=>
      obtain⟨es,cl,l',h1,h2,h3,h4⟩:=OM.mObj r ho hg
      exact⟨es,l',fun f=>by simp[zbp h1],h2,h3,h4⟩
     .cases hm
    .cases hm
   obtain⟨es,l',hb,hp,he,ha⟩:=base
   have main:∀ (vv:Value) (rr:Bool),(∃ o,Instr.findNow d z es.toList 0=some o/\((o=none/\rr=false/\(zeroValue e).run S.P w=.ok vv w)\/(∃ j,o=some (j,vv))/\rr=true))->
    (Instr.lookup t u z ok).run S.P w=.ok (if ok then .tuple #[vv,.bool rr] else vv) w:=by
    intro vv rr ⟨o,ho,hor⟩
    unfold Instr.lookup
    simp only[Sem.run_bind,run_underlying hu,Result.andThen_ok]
    have:=hb fun es=>(do
     Instr.checkKey es.isEmpty 10000 kt z
     let (v,okk) <-match <-Instr.findKey kt z es.toList with
      | some (_,v)=>pure (v,true)
      | none=>pure (<-zeroValue e,false)
     pure (if ok then .tuple #[v,.bool okk] else v))
    simp only[Sem.run_bind]at this
    refine(Eq.trans ?_ this).trans ?_
    .rfl
    .simp only[zhb hd1 hd2 hk,Result.andThen_ok,zi7 hd1 ho]
     rcases hor with⟨rfl,rfl,hz⟩|⟨⟨j,rfl⟩,rfl⟩
     .simp [hz]
     .simp
   have fin:∀ (vb:BV) (vv:Value) (rr:Bool),zf γ vb vv->zf γ (zzg ok vb rr) (if ok then .tuple #[vv,.bool rr] else vv):=by
    intro vb vv rr hb
    cases ok with
    | true=>exact .t _ _ (.cons hb (.cons (.b rr) .nil))
    | false=>exact hb
   split at hv
   .rename_i vb hf
    cases hv
    have hmem:(k,vb) ∈ l':=hp.mem_iff.2 (zlz hf)
    have hnn:∀ y ∈ l',yK y.1 k≠none:=by
     intro y hy
     have key:∀ {l:List (BV×BV)},zfq l->(k,vb) ∈ l->y ∈ l->yK k k=some true->yK y.1 k≠none:=by
      intro l
      induction l with
      | nil=>intro _ hm;cases hm
      | cons x l ih=>
       intro ha hm hy hkk
       rcases List.mem_cons.1 hy with rfl|hy
       .rcases List.mem_cons.1 hm with e|hm
        .rw [<-e,hkk];simp
        .rw [ha.1 _ hm];simp
       .rcases List.mem_cons.1 hm with e|hm
        .have h1:=ha.1 y hy
         rw[<-e]at h1
         dsimp only at h1
         intro hno
         unfold yK at h1 hno
         split at h1
         .rename_i k1 a1 k2 a2 _ _
          split at h1
          .rename_i hq1
           have:=zgp hq1
           subst this
           simp_all
          .cases h1
         .simp_all
         .cases h1
        .exact ih ha.2 hm hy hkk
     refine key ha hmem hy ?_
     cases k <;> (try exact hd2.elim)
     .simp [yK,zaQ]
     .simp [yK,eqS]
    obtain⟨j,zz,h1,h2⟩:=znu hd2 hk he ha hmem hnn 0
    exact⟨_,main zz true ⟨_,h1,.inr ⟨⟨j,rfl⟩,rfl⟩⟩,fin _ _ _ h2⟩
   .rename_i hf
    split at hv
    .rename_i vb hz
     cases hv
     have hnone:=ziK hd2 hk he (fun y hy=>zb4 hf y (hp.mem_iff.1 hy)) 0
     unfold zC8 at hz
     split at hz
     .rename_i i hi
      split at hz
      .rename_i zv hzv
       cases hz
       exact⟨_,main zv false ⟨_,hnone,.inl ⟨rfl,rfl,by simp[zeroValue,typeInfo,hT.ty _ _ hi,hzv]⟩⟩,fin _ _ _ (zzP zv)⟩
      .cases hz
     .cases hz
    .cases hv
   .cases hv
  .cases hv
 .cases hv
end Go.Bm
/-! Filling;parts;every operation that changes nothing. -/
namespace Go.Bm
open Go Go.RowKit
variable {S:zd}{γ γ':Nat->Option G}{C:Ctx}{h:Hp}{w w':World}{σ:Tr BV}{a:Act}{P:Program}
theorem zcC:∀ (cs:List BV) (off:Nat) (l:List BV),(zeH cs off l).length=cs.length
 | cs,_,[]=>by cases cs <;> simp[zeH]
 | [],_,_::_=>rfl
 | _::cs,0,x::l=>by simp[zeH,zcC cs 0 l]
 | c::cs,k+1,x::l=>by simp[zeH,zcC cs k (x::l)]
theorem zio:∀ (cs:List BV) (off:Nat) (l:List BV),off+l.length<=cs.length->∀ j,(zeH cs off l)[j]?=if off<=j/\j<off+l.length then l[j-off]? else cs[j]?
 | cs,off,[],_,j=>by rw[if_neg (by simp only[List.length_nil];omega)];cases cs <;> simp[zeH]
 | [],off,x::l,h,j=>by simp at h
 | c::cs,0,x::l,h,j=>by
  simp only[zeH]
  cases j with
  | zero=>rw[if_pos (by simp)];rfl
  | succ j=>
   rw[List.getElem?_cons_succ,zio cs 0 l (by simp at h ⊢;omega)]
   by_cases hc:0<=j/\j<0+l.length
   .rw [if_pos hc,if_pos (by simp;omega)];simp
   .rw [if_neg hc,if_neg (by simp;omega)];simp
 | c::cs,k+1,x::l,h,j=>by
  simp only[zeH]
  cases j with
  | zero=>rw[if_neg (by omega)];rfl
  | succ j=>
   rw[List.getElem?_cons_succ,zio cs k (x::l) (by simp at h ⊢;omega)]
   by_cases hc:k<=j/\j<k+(x::l).length
   .rw [if_pos hc,if_pos (by omega)];congr 1;omega
   .rw [if_neg hc,if_neg (by omega)];simp
theorem zdW(off:Nat):∀ (l:List Value) (n:Nat) (cells:Array Value),
 ((l.zipIdx n).foldl (fun cs x=>cs.setIfInBounds (off+x.2) x.1) cells).size=cells.size/\
 ∀ j,off+n+l.length<=cells.size->((l.zipIdx n).foldl (fun cs x=>cs.setIfInBounds (off+x.2) x.1) cells)[j]?=
  if off+n<=j/\j<off+n+l.length then l[j-(off+n)]? else cells[j]?
 | [],n,cells=>by
  refine⟨rfl,fun j _=>?_⟩
  rw[if_neg (by simp)];rfl
 | v::l,n,cells=>by
  obtain⟨h1,h2⟩:=zdW off l (n+1) (cells.setIfInBounds (off+n) v)
  simp only[List.zipIdx_cons,List.foldl_cons,List.length_cons]
  refine⟨by rw[h1];simp,fun j hj=>?_⟩
  rw[h2 j (by simp;omega)]
  by_cases e:j=off+n
  .subst e
   rw[if_neg (by omega),if_pos (by omega)]
   rw[Array.getElem?_setIfInBounds_self_of_lt (by omega)]
   simp
  .rw [Array.getElem?_setIfInBounds_ne (by omega)]
   by_cases hc:off+(n+1)<=j/\j<off+(n+1)+l.length
   .rw [if_pos hc,if_pos (by omega)]
    obtain⟨q,hq⟩:∃ q,j-(off+n)=q+1:=⟨j-(off+n)-1,by omega⟩
    have hq2:j-(off+(n+1))=q:=by omega
    rw[hq,hq2];rfl
   .rw [if_neg hc,if_neg (by omega)]
theorem ziW{x:BV}(h:okV x=true){v:Value}(hx:zf γ x v):zm γ (cellsOf x) v.cells.toList:=by
 have one1:one x=true->v.cells=#[v]:=fun ho=>by
  have:=hx.one ho
  cases v <;> first|rfl|cases this
 cases x with
 | a l=>cases hx with|a _ vs hv=>exact hv
 | u=>cases h
 | t l=>cases h
 | _=>rw[one1 rfl];exact .cons hx .nil
inductive zdj(γ:Nat->Option G):List (Nat×BV)->List (Nat×Value)->Prop
 | nil:zdj γ [] []
 | cons {i:Nat} {x:BV} {v:Value} {xs:List (Nat×BV)} {vs:List (Nat×Value)} (h:zf γ x v) (t:zdj γ xs vs):zdj γ ((i,x)::xs) ((i,v)::vs)
theorem zgJ(hs:yF γ σ a.tmps):∀ l:List (Nat×Operand),zdj γ (ze1 σ l) (l.map fun p=>(p.1,a.eval p.2))
 | []=>.nil
 | (_,x)::l=>.cons (zo hs x) (zgJ hs l)
theorem zc8(place:Nat->Option (Nat×Nat)):∀ (xs:List (Nat×BV)) (vs:List (Nat×Value)) (cs r:List BV) (cells:Array Value),
 zqS place xs cs=some r->zdj γ xs vs->zm γ cs cells.toList->∃ cells',Instr.fill place cells vs=some cells'/\zm γ r cells'.toList/\r.length=cs.length:=by
 intro xs
 induction xs with
 | nil=>intro vs cs r cells h hp hc;cases hp;cases h;exact⟨cells,rfl,hc,rfl⟩
 | cons x xs ih=>
  intro vs cs r cells h hp hc
  cases hp with
  | @cons i x v _ vs hv ht=>
   simp only[zqS]at h
   cases hpl:place i with
   | none=>rw[hpl]at h;cases h
   | some ps=>
    obtain⟨off,size⟩:=ps
    rw[hpl]at h
    dsimp only at h
    split at h
    .rename_i hb
     rw[Bool.and_eq_true,Bool.and_eq_true]at hb
     have h0:=hb.1
     have h1:=Nat.eq_of_beq_eq_true hb.2.1
     have h2:off+size<=cs.length:=Nat.le_of_ble_eq_true hb.2.2
     have hcv:=ziW h0 hv
     have hlen:v.cells.toList.length=(cellsOf x).length:=hcv.length
     have hcl:cells.toList.length=cs.length:=hc.length
     have hs:v.cells.size=size:=by rw[<-Array.length_toList,hlen,h1]
     have hcs:cells.size=cs.length:=by rw[<-Array.length_toList,hcl]
     have hcond:(decide (v.cells.size≠size)||decide (off+v.cells.size>cells.size))=false:=by
      rw[Bool.or_eq_false_iff,decide_eq_false_iff_not,decide_eq_false_iff_not,hs,hcs];omega
     simp only[Instr.fill,hpl,hcond,Bool.false_eq_true,if_false]
     obtain⟨g1,g2⟩:=zdW off v.cells.toList 0 cells
     have e:(v.cells.zipIdx.foldl (fun cs x=>match x with|(c,j)=>cs.setIfInBounds (off+j) c) cells)=
      ((v.cells.toList.zipIdx 0).foldl (fun cs x=>cs.setIfInBounds (off+x.2) x.1) cells):=by
      rw[<-Array.foldl_toList]
      simp
     rw[e]
     obtain⟨cells',i1,i2,i3⟩:=ih vs (zeH cs off (cellsOf x)) r ((v.cells.toList.zipIdx 0).foldl (fun cs x=>cs.setIfInBounds (off+x.2) x.1) cells) h ht (by
      refine zm.of_get (by rw[Array.length_toList,g1,zcC,hcs]) fun j y u hy hu=>?_
      rw[zio _ _ _ (by omega)]at hy
      rw[Array.getElem?_toList,g2 j (by omega)]at hu
      by_cases hcnd:off<=j/\j<off+(cellsOf x).length
      .rw [if_pos hcnd]at hy
       rw[if_pos (by omega)]at hu
       obtain⟨u',hu1,hu2⟩:=hcv.get? hy
       simp only[Nat.add_zero]at hu
       rw[hu1]at hu;cases hu;exact hu2
      .rw [if_neg hcnd]at hy
       rw[if_neg (by omega)]at hu
       obtain⟨u',hu1,hu2⟩:=hc.get? hy
       rw[Array.getElem?_toList]at hu1
       rw[hu1]at hu;cases hu;exact hu2)
     exact⟨cells',i1,i2,by rw[i3,zcC]⟩
    .cases h
theorem zp8(hT:TyOk S):∀ (fs:List Field) (pl:List (Nat×Nat)),zj0 S fs=some pl->∀ w:World,(fs.mapM fun f=>do pure (f.offset,<-sizeOf f.type):Sem (List (Nat×Nat))).run S.P w=.ok pl w:=by
 intro fs
 induction fs with
 | nil=>intro pl h w;cases h;rfl
 | cons f l ih=>
  intro pl h w
  unfold zj0 at h
  split at h
  .rename_i k r hk hr
   cases h
   rw[List.mapM_cons]
   simp only[Sem.run_bind,zad hT hk,Result.andThen_ok,Sem.run_pure,ih r hr]
  .cases h
theorem zro(hT:TyOk S){t:TypeId}{ps:List (Nat×BV)}{v:BV}(hv:ztn S t ps=some v){vs:List (Nat×Value)}(hp:zdj γ ps vs)(w:World):
 ∃ z,(Instr.build t vs.toArray).run S.P w=.ok z w/\zf γ v z:=by
 unfold ztn at hv
 split at hv
 .rename_i pl z hpl hz
  split at hv
  .rename_i l hf
   cases hv
   unfold zub at hpl
   split at hpl
   .rename_i fs hu
    obtain⟨zv,hzv,rfl,_⟩:=ye hT hz
    obtain⟨cells',h1,h2,_⟩:=zc8 (γ:=γ) (fun i=>pl[i]?) _ _ _ _ zv.cells hf hp (zhQ _)
    have hpr:=zp8 hT _ _ hpl w
    have hpa:(fs.mapM fun f=>do pure (f.offset,<-sizeOf f.type):Sem (Array (Nat×Nat))).run S.P w=.ok pl.toArray w:=by
     rw[Array.mapM_eq_mapM_toList,Sem.run_map,hpr];rfl
    refine⟨.agg cells',?_,.a _ _ h2⟩
    simp only[Instr.build,Sem.run_bind,hzv,Result.andThen_ok,yi hT hu,hpa]
    have:(fun i:Nat=>pl.toArray[i]?)=fun i:Nat=>pl[i]?:=by funext i;simp
    rw[this,h1]
    rfl
   .cases hpl
  .cases hv
 .cases hv
theorem zpK:∀ (n:Nat) (l:List BV),zmP n l=l.take n
 | 0,_=>by simp[zmP]
 | _+1,[]=>rfl
 | n+1,x::l=>by simp[zmP,zpK n l]
theorem zq5:∀ (n:Nat) (l:List BV),znE n l=l.drop n
 | 0,_=>by simp[znE]
 | _+1,[]=>rfl
 | n+1,x::l=>by simp[znE,zq5 n l]
theorem zqT(hT:TyOk S){t f ft off k:Nat}{l:List BV}{v:BV}(hf:zlA S t f=some (ft,off))(hk:sz S ft=some k)(hb:off+k<=l.length)(hv:zw9 S ft (zmP k (znE off l))=some v)
 {vs:Array Value} (hl:zm γ l vs.toList) (w:World):∃ z,(Instr.field t (.agg vs) f).run S.P w=.ok z w/\zf γ v z:=by
 obtain⟨fs,fd,hu,hfd,rfl,rfl⟩:=zjq hT hf
 have hlen:vs.size=l.length:=by rw[<-Array.length_toList];exact hl.length
 unfold zw9 at hv
 rw[zpK,zq5]at hv
 split at hv
 .rename_i ha
  cases hv
  refine⟨.agg (vs.extract fd.offset (fd.offset+k)),?_,.a _ _ ?_⟩
  .simp [Instr.field,run_underlying hu,hfd,asAgg,part,zjX hT ha,zad hT hk]
  .refine zm.of_get (by simp;omega) fun j x u hx hu'=>?_
   have hj:j<k:=by
    rcases Nat.lt_or_ge j k with h|h
    .exact h
    .rw [List.getElem?_eq_none (by simp;omega)]at hx;cases hx
   rw[List.getElem?_take_of_lt hj,List.getElem?_drop]at hx
   obtain⟨u',h1,h2⟩:=hl.get? hx
   rw[Array.getElem?_toList]at h1
   have:(vs.extract fd.offset (fd.offset+k)).toList[j]?=vs[fd.offset+j]?:=by
    rw[Array.getElem?_toList,Array.getElem?_extract_of_lt (by omega),Array.getElem?_eq_getElem (by omega)]
   rw[this,h1]at hu'
   cases hu'
   exact h2
 .rename_i ha
  split at hv
  .rename_i x hx
   cases hv
   have h0:l[fd.offset]?=some v:=by
    have:=congrArg (·[0]?) hx
    simp at this
    rw[List.getElem?_take]at this
    split at this
    .simpa using this
    .cases this
   obtain⟨u,h1,h2⟩:=hl.get? h0
   rw[Array.getElem?_toList]at h1
   exact⟨u,by simp[Instr.field,run_underlying hu,hfd,asAgg,part,zjX hT ha,h1],h2⟩
  .cases hv
 .cases hv
end Go.Bm
/-! Texts in pieces, numbers with lengths: what they stand for. -/
namespace Go.Bm
open Go Go.RowKit
variable {S:zd}{γ γ':Nat->Option G}{C:Ctx}{h:Hp}{w w':World}{σ:Tr BV}{a:Act}{P:Program}
theorem zG.nil_inv{t:List UInt8}(h:zG γ [] t):t=[]:=by cases h;rfl
theorem zH.nil_inv{n:Nat}(h:zH γ [] n):n=0:=by cases h;rfl
theorem zG.k_inv{n c:Nat}{l:List Ck}{t:List UInt8}(h:zG γ (.k n c::l) t):c<256^n/\∃ u,t=dec n c++u/\zG γ l u:=by
 cases h with|k _ _ hc r=>exact⟨hc,_,rfl,r⟩
theorem zG.q_inv{i:Nat}{l:List Ck}{t:List UInt8}(h:zG γ (.q i::l) t):∃ g u,γ i=some g/\t=g.T++u/\zG γ l u:=by
 cases h with|q _ g hg r=>exact⟨g,_,hg,rfl,r⟩
theorem zH.inv{i:Nat}{l:List Nat}{n:Nat}(h:zH γ (i::l) n):∃ g m,γ i=some g/\n=g.T.length+m/\zH γ l m:=by
 cases h with|cons _ g hg r=>exact⟨g,_,hg,rfl,r⟩
theorem zH.det{l:List Nat}{n m:Nat}(h:zH γ l n)(k:zH γ l m):n=m:=by
 induction l generalizing n m with
 | nil=>rw[h.nil_inv,k.nil_inv]
 | cons i l ih=>
  obtain⟨g,a,h1,rfl,h2⟩:=h.inv
  obtain⟨g',b,k1,rfl,k2⟩:=k.inv
  rw[h1]at k1;cases k1
  rw[ih h2 k2]
theorem zG.det{l:List Ck}{t u:List UInt8}(h:zG γ l t)(k:zG γ l u):t=u:=by
 induction l generalizing t u with
 | nil=>rw[h.nil_inv,k.nil_inv]
 | cons x l ih=>
  cases x with
  | k n c=>
   obtain⟨_,a,rfl,h2⟩:=h.k_inv
   obtain⟨_,b,rfl,k2⟩:=k.k_inv
   rw[ih h2 k2]
  | q i=>
   obtain⟨g,a,h1,rfl,h2⟩:=h.q_inv
   obtain⟨g',b,k1,rfl,k2⟩:=k.q_inv
   rw[h1]at k1;cases k1
   rw[ih h2 k2]
theorem zG.app{l r:List Ck}{t u:List UInt8}(h:zG γ l t)(k:zG γ r u):zG γ (l++r) (t++u):=by
 induction h with
 | nil=>exact k
 | k n c hc _ ih=>rw[List.append_assoc];exact .k n c hc ih
 | q i g hg _ ih=>rw[List.append_assoc];exact .q i g hg ih
theorem zH.app{l r:List Nat}{n m:Nat}(h:zH γ l n)(k:zH γ r m):zH γ (l++r) (n+m):=by
 induction h with
 | nil=>rw[Nat.zero_add];exact k
 | cons i g hg _ ih=>rw[Nat.add_assoc];exact .cons i g hg ih
theorem zG.cat:∀ {l r:List Ck} {t u:List UInt8},zG γ l t->zG γ r u->zG γ (zeP l r) (t++u)
 | [],r,t,u,h,kk=>by rw[h.nil_inv];exact kk
 | [.q i],r,t,u,h,kk=>by
  obtain⟨g,v,h1,rfl,h2⟩:=h.q_inv
  rw[h2.nil_inv,List.append_nil]
  have:zeP [.q i] r=.q i::r:=by cases r <;> rfl
  rw[this];exact .q i g h1 kk
 | [.k n c],[],t,u,h,kk=>by
  rw[kk.nil_inv,List.append_nil];exact h
 | [.k n c],.q j::r,t,u,h,kk=>by
  obtain⟨hc,v,rfl,h2⟩:=h.k_inv
  rw[h2.nil_inv,List.append_nil]
  exact .k n c hc kk
 | [.k n c],.k m d::r,t,u,h,kk=>by
  obtain⟨hc,v,rfl,h2⟩:=h.k_inv
  obtain⟨hd,v',rfl,k2⟩:=kk.k_inv
  rw[h2.nil_inv,List.append_nil,<-List.append_assoc,<-zuS n m c d hc]
  exact .k _ _ (zlQ _ _ _ _ hc hd) k2
 | x::y::l,r,t,u,h,kk=>by
  have e:zeP (x::y::l) r=x::zeP (y::l) r:=by cases x <;> rfl
  rw[e]
  cases x with
  | k n c=>
   obtain⟨hc,v,rfl,h2⟩:=h.k_inv
   rw[List.append_assoc];exact .k n c hc (zG.cat h2 kk)
  | q i=>
   obtain⟨g,v,h1,rfl,h2⟩:=h.q_inv
   rw[List.append_assoc];exact .q i g h1 (zG.cat h2 kk)
theorem ztY(n c:Nat):za1 n c=.string ⟨(dec n c).toArray⟩:=rfl
theorem zed{x:BV}{l:List Ck}(h:zja x=some l){u:Value}(hx:zf γ x u):∃ t,u=.string ⟨t.toArray⟩/\zG γ l t:=by
 cases x <;> simp only[zja]at h <;> (try (cases h;done))
 case s n c=>
  cases hx with|s _ _ hc=>
  cases n with
  | zero=>cases h;exact⟨[],rfl,.nil⟩
  | succ n=>cases h;exact⟨dec (n+1) c,rfl,by have:=zG.k (γ:=γ) (n+1) c hc zG.nil;rwa [List.append_nil]at this⟩
 case rp l'=>cases h;cases hx with|rp _ t ht=>exact⟨t,rfl,ht⟩
theorem zeZ{l:List Ck}{t:List UInt8}(h:zG γ l t):zf γ (zqk l) (.string ⟨t.toArray⟩):=by
 unfold zqk
 split
 .rw [h.nil_inv];exact .s 0 0 (by simp)
 .obtain ⟨hc,u,rfl,h2⟩:=h.k_inv
  rw[h2.nil_inv,List.append_nil];exact .s _ _ hc
 .exact .rp _ _ h
theorem zag:∀ {l:List Ck} {t:List UInt8},zG γ l t->∃ m,zH γ (zgh l).2 m/\t.length=(zgh l).1+m
 | [],t,h=>by rw[h.nil_inv];exact⟨0,.nil,rfl⟩
 | .k n c::l,t,h=>by
  obtain⟨hc,u,rfl,h2⟩:=h.k_inv
  obtain⟨m,h3,h4⟩:=zag h2
  refine⟨m,h3,?_⟩
  rw[List.length_append,zi,h4]
  show n+_=n+(zgh l).1+m
  omega
 | .q i::l,t,h=>by
  obtain⟨g,u,h1,rfl,h2⟩:=h.q_inv
  obtain⟨m,h3,h4⟩:=zag h2
  refine⟨g.T.length+m,.cons i g h1 h3,?_⟩
  rw[List.length_append,h4]
  show _=(zgh l).1+_
  omega
theorem zin{q:Nat}:∀ {l r:List Nat},zxW q l=some r->∀ {n},zH γ l n->∃ g m,γ q=some g/\zH γ r m/\n=g.T.length+m
 | [],r,h,_,_=>by cases h
 | x::l,r,h,n,k=>by
  obtain⟨g,m,h1,rfl,h2⟩:=k.inv
  unfold zxW at h
  split at h
  .rename_i hb
   cases h
   have:=Nat.eq_of_beq_eq_true hb
   subst this
   exact⟨g,m,h1,h2,rfl⟩
  .split at h
   .rename_i r' hr
    cases h
    obtain⟨g',m',p1,p2,p3⟩:=zin hr h2
    exact⟨g',g.T.length+m',p1,.cons x g h1 p2,by omega⟩
   .cases h
theorem zaU:∀ {a b:List Nat} {n m:Nat},zH γ a n->zH γ b m->∃ p q,zH γ (zgr a b).1 p/\zH γ (zgr a b).2 q/\(n:Int)-m=p-q
 | [],b,n,m,h,k=>by rw[h.nil_inv];exact⟨0,m,.nil,k,rfl⟩
 | x::a,b,n,m,h,k=>by
  obtain⟨g,n',h1,rfl,h2⟩:=h.inv
  unfold zgr
  split
  .rename_i b' hb
   obtain⟨g',m',p1,p2,p3⟩:=zin hb k
   rw[h1]at p1;cases p1
   obtain⟨p,q,q1,q2,q3⟩:=zaU h2 p2
   exact⟨p,q,q1,q2,by rw[p3];omega⟩
  .obtain ⟨p,q,q1,q2,q3⟩:=zaU h2 k
   exact⟨g.T.length+p,q,.cons x g h1 q1,q2,by omega⟩
theorem zd4(hG:yC S C)(r:Rel C γ h w):∀ {l:List Nat} {a b:Nat},bdQ S l=some (a,b)->∀ {n},zH γ l n->a<=n/\n<=b
 | [],a,b,hb,n,k=>by cases hb;rw[k.nil_inv];exact⟨Nat.le_refl _,Nat.le_refl _⟩
 | q::l,a,b,hb,n,k=>by
  unfold bdQ at hb
  split at hb
  .rename_i a1 b1 a2 b2 e1 e2
   cases hb
   obtain⟨g,m,h1,rfl,h2⟩:=k.inv
   obtain⟨t,t1,t2,t3⟩:=hG.bd _ _ _ e1
   obtain⟨g',g1,g2⟩:=r.sy _ _ t1
   rw[h1]at g1;cases g1
   subst g2
   obtain⟨i1,i2⟩:=zd4 hG r e2 h2
   exact⟨Nat.add_le_add t2 i1,Nat.add_le_add t3 i2⟩
  .cases hb
theorem zrq(hG:yC S C)(r:Rel C γ h w){c:Int}{p n:List Nat}{lo hi:Int}(hb:bdL S c p n=some (lo,hi)){x y:Nat}(h1:zH γ p x)(h2:zH γ n y):lo<=c+x-y/\c+x-y<=hi:=by
 unfold bdL at hb
 split at hb
 .rename_i a1 b1 a2 b2 e1 e2
  cases hb
  obtain⟨p1,p2⟩:=zd4 hG r e1 h1
  obtain⟨q1,q2⟩:=zd4 hG r e2 h2
  simp only[zdA,zeb,Int.ofNat_eq_natCast]
  omega
 .cases hb
theorem zhx{x:BV}{l:Ln}(h:iaV x=some l){u:Value}(hx:zf γ x u):∃ p n:Nat,zH γ l.p p/\zH γ l.n n/\u=.int .i64 (l.c+p-n):=by
 unfold iaV at h
 split at h
 .cases h;cases hx
  refine⟨0,0,.nil,.nil,?_⟩
  congr 1;simp
 .cases h;cases hx with|ia _ _ _ p n h1 h2 hr=>exact⟨p,n,h1,h2,rfl⟩
 .cases h
theorem zqm{c:Int}{p n:List Nat}{x y:Nat}(h1:zH γ p x)(h2:zH γ n y)(hr:IntKind.i64.has (c+x-y)):zf γ (zvN c p n) (.int .i64 (c+x-y)):=by
 unfold zvN
 split
 .rw [h1.nil_inv,h2.nil_inv]
  have:c+((0:Nat):Int)-((0:Nat):Int)=c:=by omega
  rw[this];exact .i _ _
 .exact .ia _ _ _ _ _ h1 h2 hr
theorem zfX(hG:yC S C)(r:Rel C γ h w){c:Int}{q:List Nat×List Nat}{v:BV}(hv:zoJ S c q=some v){x y:Nat}(h1:zH γ q.1 x)(h2:zH γ q.2 y):zf γ v (.int .i64 (c+x-y))/\IntKind.i64.has (c+x-y):=by
 unfold zoJ at hv
 split at hv
 .rename_i a b hb
  split at hv
  .rename_i hc
   cases hv
   rw[Bool.and_eq_true,zem,zem]at hc
   have e1:=of_decide_eq_true hc.1
   have e2:=of_decide_eq_true hc.2
   obtain⟨b1,b2⟩:=zrq hG r hb h1 h2
   simp only[Int.negSucc_eq,Int.ofNat_eq_natCast]at e1 e2
   have hr:IntKind.i64.has (c+x-y):=by
    simp only[IntKind.has,IntKind.min,IntKind.max,IntKind.signed,IntKind.bits]
    simp
    omega
   exact⟨zqm h1 h2 hr,hr⟩
  .cases hv
 .cases hv
theorem zfm(hG:yC S C)(r:Rel C γ h w){x y:Ln}{lo hi:Int}(hb:bdD S x y=some (lo,hi)){p1 n1 p2 n2:Nat}(h1:zH γ x.p p1)(h2:zH γ x.n n1)(h3:zH γ y.p p2)(h4:zH γ y.n n2):
 lo<=(x.c+p1-n1)-(y.c+p2-n2)/\(x.c+p1-n1)-(y.c+p2-n2)<=hi:=by
 unfold bdD at hb
 obtain⟨p,q,k1,k2,k3⟩:=zaU (h1.app h4) (h2.app h3)
 have:=zrq hG r hb k1 k2
 rw[zeb]at this
 omega
theorem zra{p:Int×Int}{b:Bool}(h:dLt p=some b){x:Int}(h1:p.1<=x)(h2:x<=p.2):b=decide (x<0):=by
 unfold dLt at h
 rw[ze2,zem]at h
 simp only[Int.ofNat_eq_natCast]at h
 split at h
 .rename_i hb;cases h
  have:=of_decide_eq_true hb
  exact(decide_eq_true (by omega)).symm
 .split at h
  .rename_i hb;cases h
   have:=of_decide_eq_true hb
   exact(decide_eq_false (by omega)).symm
  .cases h
theorem zff{p:Int×Int}{b:Bool}(h:dLe p=some b){x:Int}(h1:p.1<=x)(h2:x<=p.2):b=decide (x<=0):=by
 unfold dLe at h
 rw[ze2,zem]at h
 simp only[Int.ofNat_eq_natCast]at h
 split at h
 .rename_i hb;cases h
  have:=of_decide_eq_true hb
  exact(decide_eq_true (by omega)).symm
 .split at h
  .rename_i hb;cases h
   have:=of_decide_eq_true hb
   exact(decide_eq_false (by omega)).symm
  .cases h
theorem zlK{p:Int×Int}{b:Bool}(h:dEq p=some b){x:Int}(h1:p.1<=x)(h2:x<=p.2):b=decide (x=0):=by
 unfold dEq at h
 rw[ze2,ze2,zaQ,zaQ]at h
 simp only[Int.ofNat_eq_natCast]at h
 split at h
 .rename_i hb;cases h
  rw[Bool.or_eq_true,decide_eq_true_eq,decide_eq_true_eq]at hb
  exact(decide_eq_false (by omega)).symm
 .split at h
  .rename_i hb;cases h
   rw[Bool.and_eq_true]at hb
   have e1:p.1=((0:Nat):Int):=by simpa using hb.1
   have e2:p.2=((0:Nat):Int):=by simpa using hb.2
   exact(decide_eq_true (by omega)).symm
  .cases h
theorem zfl{f:Int×Int->Option Bool}{o:Option (Int×Int)}{b:Bool}(h:bdT f o=some b):∃ d,o=some d/\f d=some b:=by
 unfold bdT at h
 split at h
 .exact ⟨_,rfl,h⟩
 .cases h
theorem zlY{n:Bool}{o:Option Bool}{v:BV}(h:bOf n o=some v):∃ b,o=some b/\v=.b (zhk n b):=by
 unfold bOf at h
 split at h
 .cases h;exact⟨_,rfl,rfl⟩
 .cases h
theorem zn3(hG:yC S C)(r:Rel C γ h w){o:BinOp}{x y:Ln}{v:BV}(hv:zrQ S o x y=some v){p1 n1 p2 n2:Nat}(h1:zH γ x.p p1)(h2:zH γ x.n n1)(h3:zH γ y.p p2)(h4:zH γ y.n n2)(t:TypeId):
 ∃ q,(binOp o t (.int .i64 (x.c+p1-n1)) (.int .i64 (y.c+p2-n2))).run P w=.ok q w/\zf γ v q:=by
 have cmp:∀ {f:Int×Int->Option Bool} {g:Int->Bool} (n:Bool),bOf n (bdT f (bdD S x y))=some v->(∀ (p:Int×Int) b z,f p=some b->p.1<=z->z<=p.2->b=g z)->v=.b (zhk n (g ((x.c+p1-n1)-(y.c+p2-n2)))):=by
  intro f g n hb hf
  obtain⟨b,k1,rfl⟩:=zlY hb
  obtain⟨d,k2,k3⟩:=zfl k1
  obtain⟨lo,hi⟩:=d
  obtain⟨k4,k5⟩:=zfm hG r k2 h1 h2 h3 h4
  rw[hf _ _ _ k3 k4 k5]
 generalize hA:x.c+(p1:Int)-n1=A at cmp
 generalize hB:y.c+(p2:Int)-n2=B at cmp
 cases o <;> simp only[zrQ]at hv <;> (try (cases hv;done))
 case add=>
  obtain⟨p,q,k1,k2,k3⟩:=zaU (h1.app h3) (h2.app h4)
  obtain⟨e1,e2⟩:=zfX hG r hv k1 k2
  have e3:zgY x.c y.c+p-q=A+B:=by rw[zdA];omega
  rw[e3]at e1 e2
  exact⟨_,by simp[binOp,Op.intArith,yS e2],e1⟩
 case sub=>
  obtain⟨p,q,k1,k2,k3⟩:=zaU (h1.app h4) (h2.app h3)
  obtain⟨e1,e2⟩:=zfX hG r hv k1 k2
  have e3:zkx x.c y.c+p-q=A-B:=by rw[zeb];omega
  rw[e3]at e1 e2
  exact⟨_,by simp[binOp,Op.intArith,yS e2],e1⟩
 case lss=>
  have:=cmp (g:=fun z=>decide (z<0)) false hv (fun p b z h k m=>zra h k m)
  subst this
  refine⟨_,by simp[binOp,Op.intCmp];rfl,?_⟩
  simp only[zhk]
  rw[show decide (A<B)=decide (A-B<0) from decide_eq_decide.2 (by omega)];exact .b _
 case leq=>
  have:=cmp (g:=fun z=>decide (z<=0)) false hv (fun p b z h k m=>zff h k m)
  subst this
  refine⟨_,by simp[binOp,Op.intCmp];rfl,?_⟩
  simp only[zhk]
  rw[show decide (A<=B)=decide (A-B<=0) from decide_eq_decide.2 (by omega)];exact .b _
 case gtr=>
  have:=cmp (g:=fun z=>decide (z<=0)) true hv (fun p b z h k m=>zff h k m)
  subst this
  refine⟨_,by simp[binOp,Op.intCmp];rfl,?_⟩
  simp only[zhk]
  rw[show decide (B<A)=!decide (A-B<=0) from by rw[<-decide_not];exact decide_eq_decide.2 (by omega)];exact .b _
 case geq=>
  have:=cmp (g:=fun z=>decide (z<0)) true hv (fun p b z h k m=>zra h k m)
  subst this
  refine⟨_,by simp[binOp,Op.intCmp];rfl,?_⟩
  simp only[zhk]
  rw[show decide (B<=A)=!decide (A-B<0) from by rw[<-decide_not];exact decide_eq_decide.2 (by omega)];exact .b _
 case eql=>
  have:=cmp (g:=fun z=>decide (z=0)) false hv (fun p b z h k m=>zlK h k m)
  subst this
  refine⟨_,by simp[binOp,Op.intCmp];rfl,?_⟩
  simp only[zhk]
  rw[show(A==B)=decide (A-B=0) from by rw[show(A==B)=decide (A=B) from by cases h:decide (A=B) <;> simp at h ⊢ <;> exact h];exact decide_eq_decide.2 (by omega)];exact .b _
 case neq=>
  have:=cmp (g:=fun z=>decide (z=0)) true hv (fun p b z h k m=>zlK h k m)
  subst this
  refine⟨_,by simp[binOp,Op.intCmp];rfl,?_⟩
  simp only[zhk]
  rw[show(A != B)=!decide (A-B=0) from by rw[bne,show(A==B)=decide (A=B) from by cases h:decide (A=B) <;> simp at h ⊢ <;> exact h];congr 1;exact decide_eq_decide.2 (by omega)];exact .b _
end Go.Bm
/-! Texts in pieces: cutting, comparing, reading. -/
namespace Go.Bm
open Go Go.RowKit
variable {S:zd}{γ γ':Nat->Option G}{C:Ctx}{h:Hp}{w w':World}{σ:Tr BV}{a:Act}{P:Program}
theorem zol{n d c:Nat}(h:d<256^n)(hc:c<=n):shr d c<256^(n-c):=by
 rw[zom,Nat.div_lt_iff_lt_mul (zhh c),<-Nat.pow_add]
 rwa [show n-c+c=n by omega]
theorem ziS{n d c:Nat}(h:d<256^n)(hc:c<=n):dec n d=dec c (low d c)++dec (n-c) (shr d c):=by
 have e1:dec c (low d c)=(dec n d).take c:=by
  have:=zo8 n d 0 c (by omega)
  rwa [zic,show shr d 0=d by rw[zom];simp,List.drop_zero]at this
 have e2:dec (n-c) (shr d c)=(dec n d).drop c:=by
  have:=zo8 n d c (n-c) (by omega)
  rw[zic,zEq _ _ (zol h hc)]at this
  rw[this,List.take_of_length_le (by simp[zi])]
 rw[e1,e2,List.take_append_drop]
theorem zbB:∀ {l:List Ck} {c:Nat} {qs:List Nat} {p r:List Ck},ziT l c qs=some (p,r)->∀ {t:List UInt8} {m:Nat},zG γ l t->zH γ qs m->∃ t1 t2,zG γ p t1/\zG γ r t2/\t=t1++t2/\t1.length=c+m
 | [],c,qs,p,r,hv,t,m,h,k=>by
  unfold ziT at hv
  split at hv
  .cases hv;rw[h.nil_inv,k.nil_inv];exact⟨[],[],.nil,.nil,rfl,rfl⟩
  .cases hv
 | .k n d::l,c,qs,p,r,hv,t,m,h,k=>by
  obtain⟨hd,u,rfl,h2⟩:=h.k_inv
  unfold ziT at hv
  split at hv
  .rename_i hb
   have hb:=Nat.le_of_ble_eq_true hb
   split at hv
   .rename_i p' r' hr
    cases hv
    obtain⟨t1,t2,q1,q2,rfl,q4⟩:=zbB hr h2 k
    refine⟨dec n d++t1,t2,.k n d hd q1,q2,by rw[List.append_assoc],?_⟩
    rw[List.length_append,zi,q4]
    show n+(c-n+m)=_
    omega
   .cases hv
  .rename_i hb
   have hb:¬ n<=c:=fun h'=>by rw[Nat.ble_eq_true_of_le h']at hb;cases hb
   split at hv
   .rw [k.nil_inv]
    split at hv
    .cases hv;exact⟨[],_,.nil,h,rfl,rfl⟩
    .cases hv
     refine⟨dec c (low d c),dec (n-c) (shr d c)++u,?_,.k _ _ (zol hd (by omega)) h2,?_,?_⟩
     .have:=zG.k (γ:=γ) c (low d c) (zel _ _) zG.nil
      rwa [List.append_nil]at this
     .rw [<-List.append_assoc];congr 1;exact ziS hd (by omega)
     .rw [zi];rfl
   .cases hv
 | .q i::l,c,qs,p,r,hv,t,m,h,k=>by
  obtain⟨g,u,h1,rfl,h2⟩:=h.q_inv
  unfold ziT at hv
  split at hv
  .rename_i qs' hq
   obtain⟨g',m',p1,p2,p3⟩:=zin hq k
   rw[h1]at p1;cases p1
   split at hv
   .rename_i p' r' hr
    cases hv
    obtain⟨t1,t2,q1,q2,rfl,q4⟩:=zbB hr h2 p2
    refine⟨g.T++t1,t2,.q i g h1 q1,q2,by rw[List.append_assoc],?_⟩
    rw[List.length_append,q4,p3];omega
   .cases hv
  .split at hv
   .cases hv;rw[k.nil_inv];exact⟨[],_,.nil,h,rfl,rfl⟩
   .cases hv
theorem zmX{o:Option (List Ck×List Ck)}{r:List Ck}(h:zBb o=some r):∃ p,o=some (p,r):=by
 unfold zBb at h;split at h
 .cases h;exact⟨_,rfl⟩
 .cases h
theorem ziI{o:Option (List Ck×List Ck)}{p:List Ck}(h:zza o=some p):∃ r,o=some (p,r):=by
 unfold zza at h;split at h
 .cases h;exact⟨_,rfl⟩
 .cases h
theorem zix{l:List Ck}{x:Nat}{qs:List Nat}{y:Nat}{rs:List Nat}{p:List Ck}(hv:zyx l x qs y rs=some p){t:List UInt8}{m n:Nat}(h:zG γ l t)(h1:zH γ qs m)(h2:zH γ rs n):
 x+m<=y+n/\y+n<=t.length/\zG γ p ((t.drop (x+m)).take (y+n-(x+m))):=by
 unfold zyx at hv
 split at hv
 .rename_i r hr
  obtain⟨p0,hr⟩:=zmX hr
  obtain⟨t1,t2,q1,q2,rfl,q4⟩:=zbB hr h h1
  split at hv
  .rename_i xs hd
   obtain⟨p',q',k1,k2,k3⟩:=zaU h2 h1
   rw[hd]at k1 k2
   have:=k2.nil_inv
   subst this
   split at hv
   .rename_i hb
    have hb:=Nat.le_of_ble_eq_true hb
    obtain⟨r',hc⟩:=ziI hv
    obtain⟨u1,u2,v1,v2,rfl,v4⟩:=zbB hc q2 k1
    have e:y-x+p'=y+n-(x+m):=by omega
    have v4:u1.length=y-x+p':=v4
    refine⟨by omega,?_,?_⟩
    .rw [List.length_append,List.length_append,q4];omega
    .rw [<-q4,List.drop_left,show y+n-t1.length=u1.length by omega,List.take_left];exact v1
   .cases hv
  .cases hv
 .cases hv
theorem zik{n c:Nat}{l:List Ck}{u:List UInt8}(hc:c<256^n)(h:zG γ l u):zG γ (zjb n c l) (dec n c++u):=by
 unfold zjb
 split
 .exact h
 .exact .k _ _ hc h
theorem zne(hG:yC S C)(r:Rel C γ h w){l:List Ck}{lo hi:Nat}(hv:zBN S l=some (lo,hi)){t:List UInt8}(k:zG γ l t):lo<=t.length/\t.length<=hi:=by
 unfold zBN at hv
 obtain⟨m,k1,k2⟩:=zag k
 split at hv
 rename_i n qs he
 rw[he]at k1 k2
 dsimp only at k1 k2
 split at hv
 .rename_i x y hb
  cases hv
  obtain⟨b1,b2⟩:=zd4 hG r hb k1
  rw[k2]
  exact⟨Nat.add_le_add_left b1 n,Nat.add_le_add_left b2 n⟩
 .cases hv
theorem zec(hG:yC S C)(r:Rel C γ h w){l:List Ck}(hv:zmV S l=true){t:List UInt8}(k:zG γ l t):1<=t.length:=by
 unfold zmV at hv
 split at hv
 .rename_i x y hb
  have:=(zne hG r hb k).1
  omega
 .cases hv
theorem zei(hG:yC S C)(r:Rel C γ h w){l:List Ck}{m:Nat}(hv:zna S m l=true){t:List UInt8}(k:zG γ l t):t.length<=m:=by
 unfold zna at hv
 split at hv
 .rename_i x y hb
  have:=(zne hG r hb k).2
  have:=Nat.le_of_ble_eq_true hv
  omega
 .cases hv
theorem zhI(hG:yC S C)(r0:Rel C γ h w):∀ {f:Nat} {l r:List Ck} {b:Bool},eqR S f l r=some b->∀ {t u:List UInt8},zG γ l t->zG γ r u->b=decide (t=u)
 | 0,l,r,b,hv,t,u,h,k=>by cases hv
 | f+1,l,r,b,hv,t,u,h,k=>by
  unfold eqR at hv
  split at hv
  .cases hv;rw[h.nil_inv,k.nil_inv];exact(decide_eq_true rfl).symm
  .split at hv
   .rename_i hs;cases hv
    have:=zec hG r0 hs k
    refine(decide_eq_false fun e=>?_).symm
    rw[<-e,h.nil_inv]at this;simp at this
   .cases hv
  .split at hv
   .rename_i hs;cases hv
    have:=zec hG r0 hs h
    refine(decide_eq_false fun e=>?_).symm
    rw[e,k.nil_inv]at this;simp at this
   .cases hv
  .rename_i n c l m d r
   obtain⟨hc,t',rfl,h2⟩:=h.k_inv
   obtain⟨hd,u',rfl,k2⟩:=k.k_inv
   split at hv
   .rename_i hb
    have hb:=Nat.le_of_ble_eq_true hb
    have es:=ziS hd hb
    split at hv
    .rename_i hq
     have hq:=Nat.eq_of_beq_eq_true hq
     have:=zhI hG r0 hv h2 (zik (zol hd hb) k2)
     rw[this,es,<-hq,List.append_assoc]
     exact decide_eq_decide.2 (List.append_right_inj _).symm
    .rename_i hq;cases hv
     have hq:=Nat.ne_of_beq_eq_false hq
     refine(decide_eq_false fun e=>?_).symm
     rw[es,List.append_assoc]at e
     have e1:=List.append_inj_left e (by rw[zi,zi])
     exact hq (zj7 hc (zel _ _) e1).2
   .rename_i hb
    have hb:¬ n<=m:=fun h'=>by rw[Nat.ble_eq_true_of_le h']at hb;cases hb
    have es:=ziS (c:=m) hc (by omega)
    split at hv
    .rename_i hq
     have hq:=Nat.eq_of_beq_eq_true hq
     have:=zhI hG r0 hv (zik (zol hc (by omega)) h2) k2
     rw[this,es,hq,List.append_assoc]
     exact decide_eq_decide.2 (List.append_right_inj _).symm
    .rename_i hq;cases hv
     have hq:=Nat.ne_of_beq_eq_false hq
     refine(decide_eq_false fun e=>?_).symm
     rw[es,List.append_assoc]at e
     have e1:=List.append_inj_left e (by rw[zi,zi])
     exact hq (zj7 (zel _ _) hd e1).2
  .rename_i i l j r
   obtain⟨g,t',h1,rfl,h2⟩:=h.q_inv
   obtain⟨g',u',k1,rfl,k2⟩:=k.q_inv
   split at hv
   .rename_i hb
    have:=Nat.eq_of_beq_eq_true hb
    subst this
    rw[h1]at k1;cases k1
    rw[zhI hG r0 hv h2 k2]
    exact decide_eq_decide.2 (List.append_right_inj _).symm
   .cases hv
  .cases hv
theorem zny(hG:yC S C)(r0:Rel C γ h w){l r:List Ck}{b:Bool}(hv:zCp S l r=some b){t u:List UInt8}(h:zG γ l t)(k:zG γ r u):b=decide (t=u):=by
 unfold zCp at hv
 obtain⟨m1,p1,p2⟩:=zag h
 obtain⟨m2,q1,q2⟩:=zag k
 split at hv
 rename_i n qs m rs e1 e2
 rw[e1]at p1 p2
 rw[e2]at q1 q2
 dsimp only at p1 p2 q1 q2
 split at hv
 .rename_i hb
  cases hv
  obtain⟨d,hd,he⟩:=zfl hb
  obtain⟨lo,hi⟩:=d
  obtain⟨b1,b2⟩:=zfm hG r0 hd p1 zH.nil q1 zH.nil
  have:=zlK he b1 b2
  refine(decide_eq_false fun e=>?_).symm
  have h3:=of_decide_eq_false this.symm
  have h4:=congrArg List.length e
  rw[p2,q2]at h4
  apply h3
  dsimp only
  simp only[Int.ofNat_eq_natCast]
  omega
 .exact zhI hG r0 hv h k
theorem zAb(t u:List UInt8):(t==u)=decide (t=u):=by rw[Bool.eq_iff_iff];simp
theorem zif(t:List UInt8):(⟨t.toArray⟩:ByteArray).size=t.length:=by show t.toArray.size=_;simp
theorem ztZ(t:List UInt8):(⟨t.toArray⟩:ByteArray).toList=t:=by simp
theorem zn2(hG:yC S C)(r0:Rel C γ h w){o:BinOp}{l r:List Ck}{v:BV}(hv:zrP S o l r=some v){t u:List UInt8}(h:zG γ l t)(k:zG γ r u)(ty:TypeId):
 ∃ q,(binOp o ty (.string ⟨t.toArray⟩) (.string ⟨u.toArray⟩)).run P w=.ok q w/\zf γ v q:=by
 cases o <;> simp only[zrP]at hv <;> (try (cases hv;done))
 case add=>
  split at hv
  .rename_i hb;cases hv
   have:=zei hG r0 hb (h.app k)
   rw[List.length_append]at this
   have hs:¬ (((((⟨t.toArray⟩:ByteArray).size+(⟨u.toArray⟩:ByteArray).size:Nat)):Int)>IntKind.i64.max):=by
    rw[zif,zif]
    simp[IntKind.max,IntKind.signed,IntKind.bits]
    omega
   refine⟨.string ⟨(t++u).toArray⟩,?_,zeZ (h.cat k)⟩
   simp only[binOp,Op.stringOp,hs,if_false]
   simp
   apply ByteArray.ext
   simp
  .cases hv
 case eql=>
  obtain⟨b,k1,rfl⟩:=zlY hv
  rw[zny hG r0 k1 h k]
  refine⟨.bool (decide (t=u)),?_,.b _⟩
  simp only[binOp,Op.stringOp,ztZ,zAb]
  rfl
 case neq=>
  obtain⟨b,k1,rfl⟩:=zlY hv
  rw[zny hG r0 k1 h k]
  refine⟨.bool (!decide (t=u)),?_,.b _⟩
  simp only[binOp,Op.stringOp,ztZ,zAb]
  rfl
theorem zn4(hG:yC S C)(r0:Rel C γ h w){o:BinOp}{t:TypeId}{xo yo:Operand}{x y v:BV}(hv:zrS S o x y=some v){u z:Value}(hx:zf γ x u)(hy:zf γ y z):
 ∃ q,(do eqGuard o t xo yo u z;binOp o t u z:Sem Value).run S.P w=.ok q w/\zf γ v q:=by
 unfold zrS at hv
 split at hv
 .rename_i a b e1 e2
  obtain⟨p1,n1,k1,k2,rfl⟩:=zhx e1 hx
  obtain⟨p2,n2,k3,k4,rfl⟩:=zhx e2 hy
  obtain⟨q,h1,h2⟩:=zn3 (P:=S.P) hG r0 hv k1 k2 k3 k4 t
  refine⟨q,?_,h2⟩
  have hg:∀ x y:Int,(eqGuard o t xo yo (.int .i64 x) (.int .i64 y)).run S.P w=.ok () w:=fun x y=>by cases o <;> rfl
  rw[Sem.run_bind,hg];exact h1
 .split at hv
  .rename_i l r e1 e2
   obtain⟨t1,rfl,k1⟩:=zed e1 hx
   obtain⟨t2,rfl,k2⟩:=zed e2 hy
   obtain⟨q,h1,h2⟩:=zn2 (P:=S.P) hG r0 hv k1 k2 t
   refine⟨q,?_,h2⟩
   have hg:∀ x y,(eqGuard o t xo yo (.string x) (.string y)).run S.P w=.ok () w:=fun x y=>by cases o <;> rfl
   rw[Sem.run_bind,hg];exact h1
  .cases hv
theorem zdQ{x:Option BV}{f:Unit->Option BV}{v:BV}(h:orV x f=some v):x=some v\/f ()=some v:=by
 cases x with
 | none=>exact .inr h
 | some y=>exact .inl h
theorem zm4{x:BV}{c:Nat}{qs:List Nat}(h:zBB x=some (c,qs)){u:Value}(hx:zf γ x u):∃ k m,zH γ qs m/\u=.int k (.ofNat (c+m)):=by
 unfold zBB at h
 split at h
 .cases h;cases hx;exact⟨_,0,.nil,rfl⟩
 .cases h;cases hx with|ia _ _ _ x y h1 h2 hr=>
  refine⟨.i64,x,h1,?_⟩
  rw[h2.nil_inv]
  congr 1
 .cases h
theorem zfL{d:Nat×List Nat}{x:Option BV}{c:Nat}{qs:List Nat}(h:zx5 d x=some (c,qs)){u:Option Value}(hx:zg0 γ x u){m0:Nat}(hd:zH γ d.2 m0):
 ∃ m,zH γ qs m/\((u=none/\c+m=d.1+m0)\/∃ k,u=some (.int k (.ofNat (c+m)))):=by
 cases x with
 | none=>
  cases u with
  | some _=>exact hx.elim
  | none=>cases h;exact⟨m0,hd,.inl ⟨rfl,rfl⟩⟩
 | some x=>
  cases u with
  | none=>exact hx.elim
  | some u=>
   obtain⟨k,m,h1,rfl⟩:=zm4 h hx
   exact⟨m,h1,.inr ⟨k,rfl⟩⟩
theorem zt4{k:IntKind}{n y:Nat}(hy:n<=y)(c:BoundsCode)(w:World):(Instr.sliceBound (.int k (.ofNat n)) y c).run P w=.ok n w:=by
 simp only[Instr.sliceBound,asIntOf,Sem.run_bind,Sem.run_pure,Result.andThen_ok]
 rw[if_pos (by simp;omega)]
 rfl
theorem zr8{isS:Bool}{len cap x y:Nat}{lo hi:Option Value}(h1:(lo=none/\x=0)\/∃ k,lo=some (.int k (.ofNat x)))(h2:(hi=none/\y=len)\/∃ k,hi=some (.int k (.ofNat y)))(hxy:x<=y)(hy:y<=cap)(w:World):
 (Instr.sliceBounds isS len cap lo hi none).run P w=.ok (x,y,cap) w:=by
 have b1:∀ k c,(Instr.sliceBound (.int k (.ofNat x)) y c).run P w=.ok x w:=fun k c=>zt4 hxy c w
 have b2:∀ k c,(Instr.sliceBound (.int k (.ofNat y)) cap c).run P w=.ok y w:=fun k c=>zt4 hy c w
 rcases h1 with⟨rfl,rfl⟩|⟨k1,rfl⟩ <;> rcases h2 with⟨rfl,rfl⟩|⟨k2,rfl⟩
 .simp [Instr.sliceBounds]
 .have b2:=b2 k2
  generalize Value.int k2 (Int.ofNat y)=v2 at b2 ⊢
  simp[Instr.sliceBounds,b2]
 .have b1:=b1 k1
  generalize Value.int k1 (Int.ofNat x)=v1 at b1 ⊢
  simp[Instr.sliceBounds,b1]
 .have b2:=b2 k2
  have b1:=b1 k1
  generalize Value.int k2 (Int.ofNat y)=v2 at b2 ⊢
  generalize Value.int k1 (Int.ofNat x)=v1 at b1 ⊢
  simp[Instr.sliceBounds,b1,b2]
theorem zea{id c:Nat}{qs:List Nat}{m:Nat}{g:G}(hg:γ id=some g)(hk:g.k=1)(hl:zH γ qs m)(hc:c+m<=g.C):zf γ (sxV id c qs) (.slice (some ⟨g.b,0,none⟩) (c+m) g.C):=by
 unfold sxV
 split
 .rw [hl.nil_inv]
  have:=zf.sg (γ:=γ) 1 id 0 c g 0 hg hk (by omega) (by simp) (by rw[hl.nil_inv]at hc;omega)
  simpa using this
 .exact .sx id c _ m g hg hk hl hc
theorem zpN(hT:TyOk S)(hG:yC S C)(r:Rel C γ h w){t:TypeId}{x:BV}{lo hi mx:Option BV}{v:BV}(hv:zxv S t x lo hi mx=some v){u:Value}(hx:zf γ x u){lo' hi' mx':Option Value}
 (h1:zg0 γ lo lo') (h2:zg0 γ hi hi') (h3:zg0 γ mx mx'):∃ z,(Instr.sliceAt t u lo' hi' mx').run S.P w=.ok z w/\zf γ v z:=by
 unfold zxv at hv
 split at hv
 .cases hv
 .cases mx' with
  | some _=>exact h3.elim
  | none=>
  split at hv
  .rename_i l
   cases hx with|rp _ s hs=>
   split at hv
   .rename_i ht
    have hu:=zb1 hT ht
    unfold zxu at hv
    split at hv
    .rename_i x qs y rs e1 e2
     unfold zxj at hv
     split at hv
     .rename_i p hp
      cases hv
      obtain⟨m,k1,k2⟩:=zag hs
      obtain⟨m1,p1,p2⟩:=zfL e1 h1 (m0:=0) zH.nil
      obtain⟨m2,q1,q2⟩:=zfL e2 h2 k1
      obtain⟨b1,b2,b3⟩:=zix hp hs p1 q1
      have hb:=zr8 (P:=S.P) (isS:=false) (len:=s.length) (cap:=s.length) (x:=x+m1) (y:=y+m2) (by simpa using p2) (by rw[k2];exact q2) b1 b2 w
      refine⟨_,?_,zeZ b3⟩
      have hu':(underlying t).run S.P w=.ok .string w:=run_underlying hu w
      simp only[Instr.sliceAt,Sem.run_bind,hu',Result.andThen_ok,Instr.slice,zif,hb,Sem.run_pure,Option.isSome_none,Bool.false_eq_true,if_false]
      congr 2
      apply ByteArray.ext
      simp[ByteArray.data_extract]
     .cases hv
    .cases hv
   .cases hv
  .rename_i id c qs
   cases hx with|sx _ _ _ n g hg hk hl hc=>
   split at hv
   .rename_i hk1
    obtain⟨e,hu,hs⟩:=zav hT hk1
    unfold zxt at hv
    split at hv
    .rename_i y rs e1 e2
     split at hv
     .rename_i hle
      cases hv
      obtain⟨m1,p1,p2⟩:=zfL e1 h1 (m0:=0) zH.nil
      obtain⟨m2,q1,q2⟩:=zfL e2 h2 hl
      have:=p1.nil_inv
      subst this
      obtain⟨d,hd,hf⟩:=zfl hle
      obtain⟨dl,dh⟩:=d
      obtain⟨b1,b2⟩:=zfm hG r hd q1 zH.nil hl zH.nil
      have b3:=of_decide_eq_true (zff hf b1 b2).symm
      dsimp only at b3
      simp only[Int.ofNat_eq_natCast]at b3
      have hb:=zr8 (P:=S.P) (isS:=true) (len:=c+n) (cap:=g.C) (x:=0) (y:=y+m2) (by simpa using p2) q2 (Nat.zero_le _) (by omega) w
      refine⟨_,run_slice_l hu (zad hT hs w) _ _ _ hb,?_⟩
      have:=zea (c:=y) hg hk q1 (by omega)
      simp only[Nat.sub_zero]
      by_cases h0:g.C=0
      .rw [if_pos h0];exact this
      .rw [if_neg h0]
       simpa[zC]using this
     .cases hv
    .cases hv
   .cases hv
  .cases hv
theorem zqe{d:Nat}{x:Option BV}{n:Nat}(h:zqf d x=some n){u:Option Value}(hx:zg0 γ x u):(u=none/\n=d)\/∃ k,u=some (.int k (.ofNat n)):=by
 cases x with
 | none=>cases u with
  | some _=>exact hx.elim
  | none=>cases h;exact .inl ⟨rfl,rfl⟩
 | some x=>cases u with
  | none=>exact hx.elim
  | some u=>
   obtain⟨k,rfl⟩:=zbY h hx
   exact .inr ⟨k,rfl⟩
theorem zsR(hT:TyOk S)(r:Rel C γ h w){t:TypeId}{x:BV}{lo hi mx:Option BV}{v:BV}(hv:zwd S h t x lo hi mx=some v){u:Value}(hx:zf γ x u){lo' hi' mx':Option Value}
 (h1:zg0 γ lo lo') (h2:zg0 γ hi hi') (h3:zg0 γ mx mx'):∃ z,(Instr.sliceAt t u lo' hi' mx').run S.P w=.ok z w/\zf γ v z:=by
 unfold zwd at hv
 split at hv
 .rename_i k id off len
  cases mx' with
  | some _=>exact h3.elim
  | none=>
  cases hx with|sg _ _ _ _ g o hg hk1 h0 ho hc=>
  split at hv
  .rename_i l y k' e n tr e1 e2 e3 e4
   split at hv
   .rename_i hb
    cases hv
    rw[Bool.and_eq_true,Bool.and_eq_true]at hb
    have hkk:=Nat.eq_of_beq_eq_true hb.1
    subst hkk
    have hly:l<y:=zS hb.2.1
    have hyn:off+y*k<=n:=Nat.le_of_ble_eq_true hb.2.2
    obtain⟨e0,hu,hs⟩:=zav hT e3
    obtain⟨vs,hh,hns,hvs,_⟩:=OM.cObj r e4 hg
    have hyC:o+y<=g.C:=by
     have h5:(o+y)*k<=g.C*k:=by rw[Nat.add_mul,<-ho,<-hk1,<-hvs,hk1];omega
     exact Nat.le_of_mul_le_mul_right h5 h0
    have hb':=zr8 (P:=S.P) (isS:=true) (len:=len) (cap:=g.C-o) (x:=l) (y:=y) (zqe e1 h1) (zqe e2 h2) (by omega) (by omega) w
    refine⟨_,run_slice_l hu (zad hT hs w) _ _ _ hb',?_⟩
    rw[if_neg (by omega)]
    show zf γ _ (.slice (some ((⟨g.b,off,none⟩:Addr).add (l*k))) _ _)
    rw[zC,show g.C-o-l=g.C-(o+l) by omega]
    refine .sg k id _ _ g (o+l) hg hk1 h0 ?_ ?_
    .show off+l*k=_;rw[ho,Nat.add_mul]
    .show o+l+(y-l)<=g.C;omega
   .cases hv
  .cases hv
 .cases hv
theorem zpO(hT:TyOk S){t:TypeId}{x i v:BV}(hv:zxy S t x i=some v){u z:Value}(hx:zf γ x u)(hi:zf γ i z):∃ q,(Instr.index t u z).run S.P w=.ok q w/\zf γ v q:=by
 unfold zxy at hv
 split at hv
 .rename_i l c qs e1
  cases hx with|rp _ s hs=>
  split at hv
  .rename_i ht
   have hu:=zb1 hT ht
   unfold idxR at hv
   split at hv
   .rename_i m d r e2
    cases hv
    obtain⟨k,n,k1,rfl⟩:=zm4 e1 hi
    obtain⟨p,e3⟩:=zmX e2
    obtain⟨t1,t2,q1,q2,rfl,q4⟩:=zbB e3 hs k1
    obtain⟨hd,u',rfl,q5⟩:=q2.k_inv
    refine⟨.int .u8 (.ofNat (zn d 0)),?_,.i _ _⟩
    have hg:(⟨(t1++(dec (m+1) d++u')).toArray⟩:ByteArray)[c+n]?=some (UInt8.ofNat (zn d 0)):=by
     have hlt:c+n<(t1++(dec (m+1) d++u')).length:=by rw[List.length_append,List.length_append,zi];omega
     show(if h:c+n<(⟨(t1++(dec (m+1) d++u')).toArray⟩:ByteArray).size then some _ else none)=_
     rw[dif_pos (by rw[zif];exact hlt)]
     congr 1
     have e5:(t1++(dec (m+1) d++u'))[c+n]?=some (UInt8.ofNat (zn d 0)):=by
      rw[<-q4,List.getElem?_append_right (Nat.le_refl _),Nat.sub_self,List.getElem?_append_left (by rw[zi];omega),yx _ _ _ (by omega)]
     rw[List.getElem?_eq_getElem hlt]at e5
     exact Option.some.inj e5
    simp only[Instr.index,asIntOf,Sem.run_bind,Sem.run_pure,Result.andThen_ok,run_underlying hu]
    rw[if_pos (by simp;omega)]
    have e1:(Int.ofNat (c+n)).toNat=c+n:=rfl
    rw[e1,hg]
    show Result.ok (Value.int .u8 ((UInt8.ofNat (zn d 0)).toNat:Int)) w=_
    rw[zaw];rfl
   .cases hv
  .cases hv
 .cases hv
end Go.Bm
/-! What holds of a seat's tables;lengths. -/
namespace Go.Bm
open Go Go.RowKit
variable {S:zd}{γ γ':Nat->Option G}{C:Ctx}{h:Hp}{w w':World}{σ:Tr BV}{a:Act}{P:Program}
structure VOk(S:zd):Prop extends TyOk S where
 eq2 : ∀ t, S.eq2 t = true → ∀ (a b c d : Int) (w : World), (Op.equal t (.agg #[.int .i64 a, .int .i64 b]) (.agg #[.int .i64 c, .int .i64 d])).run S.P w = .ok (a == c && b == d) w ∧
     ∀ op x y,(eqGuard op t x y (.agg #[.int .i64 a,.int .i64 b]) (.agg #[.int .i64 c,.int .i64 d])).run S.P w=.ok () w
 lies:∀ e off u,S.lies e off u=true->liesAt S.P S.P.depth e 1 off u 1=true
theorem zbO{b:Bool}{v r:BV}(h:ifB b v=some r):b=true/\v=r:=zdE h
theorem zfP{t:TypeId}{v:Value}{n:Nat}{ty:TypeId}(h:(P.underlying t=some .string/\∃ n' c,v=za1 n' c/\n'=n)\/((∃ e,P.underlying t=some (.slice e))/\∃ ad c,v=.slice ad n c))(w:World):
 (Builtin.len_ #[t] ty #[v]).run P w=.ok (.int .i64 (.ofNat n)) w:=by
 rcases h with⟨hu,n',c,rfl,rfl⟩|⟨⟨e,hu⟩,ad,c,rfl⟩
 .have:=za0 n' c
  simp[Builtin.len_,za1,run_underlying hu,goInt,this]
 .simp [Builtin.len_,run_underlying hu,goInt]
theorem znY{ad:Addr}{n c:Nat}{ts:Array TypeId}{ty:TypeId}{cs:Array Bool}(hc:c≠0):(builtin .unsafeSliceData ts ty cs #[.slice (some ad) n c]).run P w=.ok (.value (.pointer (some ad))) w:=by
 show(((if c≠0 then pure (.pointer (some ad)) else _:Sem Value) >>= fun a=>pure (.value a)):Sem Next).run P w=_
 rw[if_pos hc];rfl
end Go.Bm
/-! Texts in pieces: lengths, rows, conversions. -/
namespace Go.Bm
open Go Go.RowKit
variable {S:zd}{γ γ':Nat->Option G}{C:Ctx}{h:Hp}{w w':World}{σ:Tr BV}{a:Act}{P:Program}
theorem zn0(c i:Nat):u8V (UInt8.ofNat (zn c i))=zq c i:=by unfold u8V zq;rw[zaw]
theorem ztU{t:List UInt8}{j:Nat}{b:UInt8}(hb:t[j]?=some b):zq (encB t) j=u8V b:=by
 have hj:j<t.length:=by
  rcases Nat.lt_or_ge j t.length with h|h
  .exact h
  .rw [List.getElem?_eq_none h]at hb;cases hb
 have h1:=yx t.length (encB t) j hj
 rw[zo9,hb]at h1
 rw[Option.some.inj h1,zn0]
theorem zmU(t:List UInt8):za1 t.length (encB t)=.string ⟨t.toArray⟩:=by rw[ztY,zo9]
theorem OM.rObj{id e fz:Nat}{l:List Ck}(r:Rel C γ h w)(ho:h.get id=.br e fz l){g:G}(hg:γ id=some g):∃ vs m t,w.heap[g.b]?=some (.cells vs e m)/\g.k=1/\vs.size=g.C/\zG γ l t/\t.length<=vs.size/\zmo fz m t.length vs.size/\
 (∀ (j:Nat) (b:UInt8),t[j]?=some b->vs[j]?=some (u8V b))/\∀ (j:Nat) (b:UInt8),t[j]?=some b->w.cell? ⟨g.b,j,none⟩=some (u8V b):=by
 have:=r.ob id
 rw[ho]at this
 obtain⟨g',vs,m,t,h1,h2,h3,h4,h5,h6,h7,h8⟩:=this
 rw[hg]at h1;cases h1
 refine⟨vs,m,t,h2,h3,h4,h5,h6,h7,h8,fun j b hb=>?_⟩
 rw[cell_of_row w g.b j vs e m h2];exact h8 j b hb
def zjJ(w:World)(u:Value)(t:List UInt8):Prop:=
 u=.string ⟨t.toArray⟩\/(u=.slice none 0 0/\t=[])\/∃ (b off cap:Nat),u=.slice (some ⟨b,off,none⟩) t.length cap/\(∀ (j:Nat) (x:UInt8),t[j]?=some x->w.cell? ⟨b,off+j,none⟩=some (u8V x))
  \/(∃ ad,u=.slice (some ad) 0 cap/\t=[])
theorem zjJ.sub{t:List UInt8}{b off n cap:Nat}{f:Nat->Option Value}(hc:∀ (j:Nat) (x:UInt8),t[j]?=some x->w.cell? ⟨b,j,none⟩=some (u8V x))(hn:off+n<=t.length):zjJ w (.slice (some ⟨b,off,none⟩) n cap) ((t.drop off).take n):=by
 refine .inr (.inr ⟨b,off,cap,.inl ⟨?_,fun j x hx=>?_⟩⟩)
 .congr 1;simp;omega
 .have hj:j<n:=by
   rcases Nat.lt_or_ge j n with h|h
   .exact h
   .rw [List.getElem?_eq_none (by simp;omega)]at hx;cases hx
  rw[List.getElem?_take_of_lt hj,List.getElem?_drop]at hx
  exact hc _ _ hx
theorem zDe{b off n c m cap:Nat}(hc:∀ j,j<m->w.cell? ⟨b,j,none⟩=some (zq c j))(hn:off+n<=m):zjJ w (.slice (some ⟨b,off,none⟩) n cap) (dec n (zic c off n)):=by
 refine .inr (.inr ⟨b,off,cap,.inl ⟨by rw[zi],fun j x hx=>?_⟩⟩)
 have hj:j<n:=by
  rcases Nat.lt_or_ge j n with h|h
  .exact h
  .rw [List.getElem?_eq_none (by rw[zi];exact h)]at hx;cases hx
 rw[yx _ _ _ hj]at hx
 cases hx
 rw[hc _ (by omega),zn0,zq,zq,zgT _ _ _ _ hj]
theorem zt7{n c:Nat}{l:List Ck}(h:zja (.s n c)=some l)(hc:c<256^n):zG γ l (dec n c):=by
 obtain⟨t,h1,h2⟩:=zed h (zf.s (γ:=γ) n c hc)
 rw[ztY]at h1
 have:dec n c=t:=by
  have:=congrArg (fun v=>match v with|Value.string s=>s.data.toList|_=>[]) h1
  simpa using this
 rw[this];exact h2
theorem zfI(r:Rel C γ h w){x:BV}{l:List Ck}(hv:zmk h x=some l){u:Value}(hx:zf γ x u):∃ t,zG γ l t/\zjJ w u t:=by
 cases x <;> simp only[zmk]at hv <;> (try (cases hv;done))
 case ns=>cases hv;cases hx;exact⟨[],.nil,.inr (.inl ⟨rfl,rfl⟩)⟩
 case se=>cases hv;cases hx with|se ad c=>exact⟨[],.nil,.inr (.inr ⟨0,0,c,.inr ⟨ad,rfl,rfl⟩⟩)⟩
 case s n c=>
  obtain⟨t,h1,h2⟩:=zed hv hx
  exact⟨t,h2,.inl h1⟩
 case rp l'=>cases hv;cases hx with|rp _ t ht=>exact⟨t,ht,.inl rfl⟩
 case sl id off n cap=>
  cases hx with|sl _ _ _ _ g hg hc=>
  split at hv
  .rename_i e fz l' ho
   obtain⟨vs,m,t,q1,q2,q3,q4,q5,q6,q7,q8⟩:=OM.rObj r ho hg
   obtain⟨b1,b2,b3⟩:=zix hv q4 zH.nil zH.nil
   simp only[Nat.add_zero]at b1 b2 b3
   have b2:off+n<=t.length:=b2
   refine⟨_,b3,?_⟩
   rw[show Nat.add off n-off=n from Nat.add_sub_cancel_left off n]
   exact zjJ.sub (f:=fun _=>none) q8 b2
  .rename_i e fz m c ho
   split at hv
   .rename_i hb
    have hb:off+n<=m:=Nat.le_of_ble_eq_true hb
    obtain⟨vs,mk,q1,q2,q3,q4,q5,q6,q7⟩:=OM.bObj r ho hg
    exact⟨_,zt7 hv (zn9 _ _ _),zDe q7 hb⟩
   .cases hv
  .cases hv
 case sg k id off n=>
  cases hx with|sg _ _ _ _ g o hg hk h0 ho' hc=>
  split at hv
  .rename_i e fz l' ho
   obtain⟨vs,m,t,q1,q2,q3,q4,q5,q6,q7,q8⟩:=OM.rObj r ho hg
   obtain⟨b1,b2,b3⟩:=zix hv q4 zH.nil zH.nil
   simp only[Nat.add_zero]at b1 b2 b3
   have b2:off+n<=t.length:=b2
   refine⟨_,b3,?_⟩
   rw[show Nat.add off n-off=n from Nat.add_sub_cancel_left off n]
   exact zjJ.sub (f:=fun _=>none) q8 b2
  .rename_i e fz m c ho
   split at hv
   .rename_i hb
    have hb:off+n<=m:=Nat.le_of_ble_eq_true hb
    obtain⟨vs,mk,q1,q2,q3,q4,q5,q6,q7⟩:=OM.bObj r ho hg
    exact⟨_,zt7 hv (zn9 _ _ _),zDe q7 hb⟩
   .cases hv
  .cases hv
 case sx id c qs=>
  cases hx with|sx _ _ _ n g hg hk hl hc=>
  split at hv
  .rename_i e fz l' ho
   obtain⟨vs,m,t,q1,q2,q3,q4,q5,q6,q7,q8⟩:=OM.rObj r ho hg
   obtain⟨r',hcut⟩:=ziI hv
   obtain⟨t1,t2,b1,b2,rfl,b4⟩:=zbB hcut q4 hl
   refine⟨t1,b1,.inr (.inr ⟨g.b,0,g.C,.inl ⟨by rw[b4],fun j x hx=>?_⟩⟩)⟩
   rw[Nat.zero_add]
   refine q8 j x ?_
   have hj:j<t1.length:=by
    rcases Nat.lt_or_ge j t1.length with h|h
    .exact h
    .rw [List.getElem?_eq_none h]at hx;cases hx
   rw[List.getElem?_append_left hj];exact hx
  .cases hv
theorem zpP(hT:TyOk S)(r:Rel C γ h w){s d:TypeId}{x v:BV}(hv:zi5 S h s d x=some v){u:Value}(hx:zf γ x u):∃ z,(convert s d u).run S.P w=.ok z w/\zf γ v z:=by
 unfold zi5 at hv
 split at hv
 .rename_i hd
  split at hv
  .rename_i k c ps ns hs
   cases hv
   cases hx with|ia _ _ _ p n h1 h2 hr=>
   exact⟨_,by simp[convert,yi hT hd,yi hT hs,Conv.intToInt,yS hr],.ia _ _ _ _ _ h1 h2 hr⟩
  .cases hv
 .rename_i hd
  have hd':=zB hT hd
  split at hv
  .rename_i hs
   split at hv
   .cases hv
    cases hx with|rp _ t ht=>
    exact⟨_,by simp[convert,run_underlying hd',yi hT hs],.rp _ _ ht⟩
   .cases hv
  .rename_i e hs
   have hu':=zB hT hs
   split at hv
   .rename_i h8
    have h8':=zfT hT h8
    have hrun:∀ (ad:Option Addr) (n c:Nat),(convert s d (.slice ad n c)).run S.P w=(Conv.bytesToString (.slice ad n c)).run S.P w:=fun ad n c=>by
     simp[convert,run_underlying hd',run_underlying hu',run_underlying h8']
    split at hv
    .unfold zxj at hv
     split at hv
     .rename_i l hl
      cases hv
      obtain⟨t,h1,h2⟩:=zfI r hl hx
      refine⟨.string ⟨t.toArray⟩,?_,zeZ h1⟩
      rcases h2 with rfl|⟨rfl,rfl⟩|⟨b,off,cap,⟨rfl,hc⟩|⟨ad,rfl,rfl⟩⟩
      .cases hx
      .rw [hrun];rfl
      .rw [hrun,<-zmU]
       refine zg1 _ _ cap _ fun j hj=>?_
       rw[zC,hc j t[j] (List.getElem?_eq_getElem hj),ztU (List.getElem?_eq_getElem hj)]
      .rw [hrun]
       exact zg1 ad 0 cap 0 (fun j hj=>by omega)
     .cases hv
    .cases hv
   .cases hv
  .cases hv
 .cases hv
theorem zyH{t:TypeId}(hu:P.underlying t=some .string)(s:List UInt8)(ty:TypeId)(w:World):(Builtin.len_ #[t] ty #[.string ⟨s.toArray⟩]).run P w=.ok (.int .i64 (.ofNat s.length)) w:=by
 have:=zif s
 simp[Builtin.len_,run_underlying hu,goInt,this]
theorem zpQ(hS:VOk S)(hG:yC S C)(r:Rel C γ h w){b:Builtin}{ts:Array TypeId}{xs:List BV}{v:BV}(hv:zi6 S b ts xs=some v){vs:List Value}(hx:zm γ xs vs)(ty:TypeId)(cs:Array Bool):
 ∃ q,(builtin b ts ty cs vs.toArray).run S.P w=.ok (.value q) w/\zf γ v q:=by
 have hT:=hS.toTyOk
 have two:∀ {g:Bool} {f:Value->Value->Sem Value},ztV S g xs=some v->(∀ x y:Int,f (.int .i64 x) (.int .i64 y)=pure (.int .i64 (match g with|true=>if x<=y then y else x|false=>if x<=y then x else y)))->
  ∃ x y q,vs=[x,y]/\f x y=pure q/\zf γ v q:=by
  intro g f hm hf
  unfold ztV at hm
  split at hm
  .rename_i x y
   obtain⟨u,z,rfl,h1,h2⟩:=hx.two_inv
   split at hm
   .rename_i a1 a2 e1 e2
    obtain⟨p1,n1,k1,k2,rfl⟩:=zhx e1 h1
    obtain⟨p2,n2,k3,k4,rfl⟩:=zhx e2 h2
    split at hm
    .rename_i c hb
     obtain⟨d,hd,hq⟩:=zfl hb
     obtain⟨lo,hi⟩:=d
     obtain⟨b1,b2⟩:=zfm hG r hd k1 k2 k3 k4
     have hc:=zff hq b1 b2
     have hc':c=decide ((a1.c+p1-n1)<=(a2.c+p2-n2)):=hc.trans (decide_eq_decide.2 (by omega))
     cases hm
     refine⟨_,_,_,rfl,hf _ _,?_⟩
     subst hc'
     by_cases hle:(a1.c+p1-n1)<=(a2.c+p2-n2)
     .rw [decide_eq_true hle];cases g <;> simp only[if_pos hle] <;> assumption
     .rw [decide_eq_false hle];cases g <;> simp only[if_neg hle] <;> assumption
    .split at hm
     .rename_i hb
      obtain⟨d,hd,hq⟩:=zfl hb
      obtain⟨lo,hi⟩:=d
      obtain⟨b1,b2⟩:=zfm hG r hd k3 k4 k1 k2
      have hc:=zff hq b1 b2
      have hge:(a2.c+p2-n2)<=(a1.c+p1-n1):=by
       have:=of_decide_eq_true hc.symm
       omega
      cases hm
      refine⟨_,_,_,rfl,hf _ _,?_⟩
      by_cases hle:(a1.c+p1-n1)<=(a2.c+p2-n2)
      .have e:(a1.c+p1-n1)=(a2.c+p2-n2):=Int.le_antisymm hle hge
       cases g
       .simp only[if_pos hle];rw[e];assumption
       .simp only[if_pos hle];rw[<-e];assumption
      .cases g <;> simp only[if_neg hle] <;> assumption
     .cases hm
   .cases hm
  .cases hm
 have ts1:∀ {t:TypeId},ts.toList=[t]->ts=#[t]:=fun e=>Array.ext' e
 cases b <;> simp only[zi6]at hv <;> (try (cases hv;done))
 case len=>
  split at hv
  .rename_i t x hts
   have hts:=ts1 hts
   subst hts
   obtain⟨u,rfl,hu⟩:=hx.one_inv
   have fin:∀ n:Nat,zf γ v (.int .i64 (.ofNat n))->(Builtin.len_ #[t] ty #[u]).run S.P w=.ok (.int .i64 (.ofNat n)) w->∃ q,(builtin .len #[t] ty cs [u].toArray).run S.P w=.ok (.value q) w/\zf γ v q:=by
    intro n e hr
    refine⟨_,?_,e⟩
    show((Builtin.len_ #[t] ty #[u] >>= fun a=>pure (.value a)):Sem Next).run S.P w=_
    rw[Sem.run_bind,hr];rfl
   unfold zxx at hv
   split at hv
   .rename_i l
    cases hu with|rp _ s hs=>
    split at hv
    .rename_i n qs h1 h2
     obtain⟨m,p1,p2⟩:=zag hs
     rw[h2]at p1 p2
     obtain⟨e1,_⟩:=zfX hG r hv p1 zH.nil
     refine fin s.length ?_ (zyH (zb1 hT h1) s ty w)
     dsimp only at p2
     have:Int.ofNat n+(m:Int)-((0:Nat):Int)=Int.ofNat s.length:=by rw[p2];simp
     rw[this]at e1;exact e1
    .cases hv
   .rename_i id c qs
    cases hu with|sx _ _ _ n g hg hk hl hc=>
    split at hv
    .rename_i h1
     obtain⟨e1,_⟩:=zfX hG r hv hl zH.nil
     refine fin (c+n) ?_ (zfP (.inr ⟨zb2 hT h1,_,_,rfl⟩) w)
     have:Int.ofNat c+(n:Int)-((0:Nat):Int)=Int.ofNat (c+n):=by simp
     rw[this]at e1;exact e1
    .cases hv
   .cases hv
  .cases hv
 case max=>
  obtain⟨x,y,q,rfl,hq,hr⟩:=two (g:=true) (f:=Builtin.max2) hv (fun x y=>by
   simp only[Builtin.max2]
   by_cases hxy:x<=y
   .rw [if_pos hxy]
    by_cases h2:y<=x
    .rw [show x=y by omega];simp
    .first|rw[if_neg (by omega)]|rw[if_pos (by omega)]
   .rw [if_neg hxy]
    first|rw[if_pos (by omega)]|rw[if_neg (by omega)])
  exact⟨q,by simp[builtin,Builtin.max_,hq],hr⟩
 case min=>
  obtain⟨x,y,q,rfl,hq,hr⟩:=two (g:=false) (f:=Builtin.min2) hv (fun x y=>by
   simp only[Builtin.min2]
   by_cases hxy:x<=y
   .rw [if_pos hxy]
    by_cases h2:y<=x
    .rw [show x=y by omega];simp
    .first|rw[if_neg (by omega)]|rw[if_pos (by omega)]
   .rw [if_neg hxy]
    first|rw[if_pos (by omega)]|rw[if_neg (by omega)])
  exact⟨q,by simp[builtin,Builtin.min_,hq],hr⟩
 case unsafeSliceData=>
  split at hv
  .rename_i x
   obtain⟨u,rfl,hu⟩:=hx.one_inv
   unfold zxr at hv
   split at hv
   .rename_i id c qs
    cases hu with|sx _ _ _ n g hg hk hl hc=>
    split at hv
    .rename_i lo hi hb
     split at hv
     .rename_i h1;cases hv
      have h1:1<=c+lo:=Nat.le_of_ble_eq_true h1
      have:=(zd4 hG r hb hl).1
      have hne:¬ (g.C=0):=by omega
      exact⟨_,znY (ts:=ts) (ty:=ty) (cs:=cs) hne,.p _ _ g hg⟩
     .cases hv
    .cases hv
   .cases hv
  .cases hv
end Go.Bm
/-! Every operation that changes nothing. -/
namespace Go.Bm
open Go Go.RowKit
variable {S:zd}{γ γ':Nat->Option G}{C:Ctx}{h:Hp}{w w':World}{σ:Tr BV}{a:Act}{P:Program}
theorem zlX(hS:VOk S){o:BinOp}{t:TypeId}{xo yo:Operand}{x y v:BV}(hv:zFe S t yo o x y=some v){u z:Value}(hx:zf γ x u)(hy:zf γ y z)(w:World):
 ∃ q,(do eqGuard o t xo yo u z;binOp o t u z:Sem Value).run S.P w=.ok q w/\zf γ v q:=by
 have other:zdm S t yo o x y=some v->∃ q,(do eqGuard o t xo yo u z;binOp o t u z:Sem Value).run S.P w=.ok q w/\zf γ v q:=by
  intro hb
  unfold zdm at hb
  split at hb
  .split at hb
   .rename_i r hr;cases hb
    obtain⟨h1,h2,h3,_⟩:=znx hS.toTyOk hS.eq2 (xo:=xo) hr hx hy w
    exact⟨.bool r,by rw[h3];simp[h2,h1],.b r⟩
   .cases hb
  .split at hb
   .rename_i r hr;cases hb
    obtain⟨h1,h2,_,h3⟩:=znx hS.toTyOk hS.eq2 (xo:=xo) hr hx hy w
    exact⟨.bool (!r),by rw[h3];simp[h2,h1],.b (!r)⟩
   .cases hb
  .cases hb
 cases x <;> simp only[zFe]at hv <;> (try exact other hv)
 case i k n=>
  cases hx
  cases y <;> simp only[binI]at hv <;> (try (cases hv;done))
  case i k' m=>
   cases hy
   unfold intG at hv
   have hg:(eqGuard o t xo yo (.int k n) (.int k' m)).run S.P w=.ok () w:=by cases o <;> rfl
   cases hb:Nat.beq (kn k) (kn k')with
   | true=>
    rw[hb]at hv
    have:=zgp hb
    subst this
    cases hsh:zyT o with
    | false=>
     obtain⟨q,h1,h2⟩:=zqD (S:=S) (γ:=γ) hv hsh t w
     exact⟨q,by simp[hg,h1],h2⟩
    | true=>
     obtain⟨q,h1,h2⟩:=zkI (S:=S) (γ:=γ) (k':=k) hv hsh t w
     exact⟨q,by simp[hg,h1],h2⟩
   | false=>
    rw[hb]at hv
    cases hsh:zyT o with
    | false=>rw[hsh]at hv;cases hv
    | true=>
     rw[hsh]at hv
     obtain⟨q,h1,h2⟩:=zkI (S:=S) (γ:=γ) (k':=k') hv hsh t w
     exact⟨q,by simp[hg,h1],h2⟩
 case s n c=>
  cases hx with|s _ _ hc=>
  cases y <;> simp only[binS]at hv <;> (try (cases hv;done))
  case s m d=>
   cases hy with|s _ _ hd=>
   have hg:(eqGuard o t xo yo (za1 n c) (za1 m d)).run S.P w=.ok () w:=by cases o <;> rfl
   obtain⟨q,h1,h2⟩:=zpT (S:=S) (γ:=γ) hv hc hd t w
   exact⟨q,by simp[hg,h1],h2⟩
theorem zph(hS:VOk S)(r:Rel C γ h w){b:Builtin}{ts:Array TypeId}{xs:List BV}{v:BV}(hv:zdH S h b ts xs=some v){vs:List Value}(hx:zm γ xs vs)(ty:TypeId)(cs:Array Bool):
 ∃ q,(builtin b ts ty cs vs.toArray).run S.P w=.ok (.value q) w/\zf γ v q:=by
 have two:∀ {f:Int->Int->Int} {g:Value->Value->Sem Value},mmV f xs=some v->(∀ k x y,(g (.int k x) (.int k y))=pure (.int k (f x y))/\∀ k',g (.int k x) (.int k' y)=pure (.int k (f x y)))->
  ∃ x y q,vs=[x,y]/\g x y=pure q/\zf γ v q:=by
  intro f g hm hg
  unfold mmV at hm
  split at hm
  .cases hm
   obtain⟨x,y,rfl,h1,h2⟩:=hx.two_inv
   cases h1;cases h2
   exact⟨_,_,_,rfl,(hg _ _ _).2 _,.i _ _⟩
  .cases hm
 have ts1:∀ {t:TypeId},ts.toList=[t]->ts=#[t]:=fun e=>Array.ext' e
 cases b <;> simp only[zdH]at hv <;> (try (cases hv;done))
 case len=>
  split at hv
  .rename_i t x hts
   have hts:=ts1 hts
   subst hts
   obtain⟨u,rfl,hu⟩:=hx.one_inv
   have fin:∀ n,v=zb n->(Builtin.len_ #[t] ty #[u]).run S.P w=.ok (.int .i64 (.ofNat n)) w->∃ q,(builtin .len #[t] ty cs [u].toArray).run S.P w=.ok (.value q) w/\zf γ v q:=by
    intro n e hr
    subst e
    refine⟨_,?_,.i _ _⟩
    show((Builtin.len_ #[t] ty #[u] >>= fun a=>pure (.value a)):Sem Next).run S.P w=_
    rw[Sem.run_bind,hr];rfl
   have arr:(match zdK S t with|some (n,_)=>some (zb n)|none=>none)=some v->∃ q,(builtin .len #[t] ty cs [u].toArray).run S.P w=.ok (.value q) w/\zf γ v q:=by
    intro ha
    split at ha
    .rename_i n k hk
     cases ha
     obtain⟨e,hu',_⟩:=zf9 hS.toTyOk hk
     refine fin n rfl ?_
     simp[Builtin.len_,run_underlying hu',goInt]
    .cases ha
   cases x <;> simp only[zyG]at hv <;> (try exact arr hv)
   case s n c=>
    obtain⟨h1,rfl⟩:=zbO hv
    cases hu
    exact fin n rfl (zfP (.inl ⟨zb1 hS.toTyOk h1,_,_,rfl,rfl⟩) w)
   case ns=>
    obtain⟨h1,rfl⟩:=zbO hv
    cases hu
    exact fin 0 rfl (zfP (.inr ⟨zb2 hS.toTyOk h1,_,_,rfl⟩) w)
   case se=>
    obtain⟨h1,rfl⟩:=zbO hv
    cases hu
    exact fin 0 rfl (zfP (.inr ⟨zb2 hS.toTyOk h1,_,_,rfl⟩) w)
   case sl id off n c=>
    obtain⟨h1,rfl⟩:=zbO hv
    cases hu
    exact fin n rfl (zfP (.inr ⟨zb2 hS.toTyOk h1,_,_,rfl⟩) w)
   case sg k id off n=>
    obtain⟨h1,rfl⟩:=zbO hv
    cases hu
    exact fin n rfl (zfP (.inr ⟨zb2 hS.toTyOk h1,_,_,rfl⟩) w)
   case nm=>
    obtain⟨h1,rfl⟩:=zbO hv
    obtain⟨kt,e,hu'⟩:=znm hS.toTyOk h1
    cases hu
    exact fin 0 rfl (by simp[Builtin.len_,run_underlying hu',goInt])
   case m id=>
    split at hv
    .rename_i l ho
     obtain⟨h1,rfl⟩:=zbO hv
     obtain⟨kt,e,hu'⟩:=znm hS.toTyOk h1
     cases hu with|m _ g hg=>
     obtain⟨es,cl,l',q1,q2,q3,_⟩:=OM.mObj r ho hg
     have hlen:es.size=l.length:=by
      have key:∀ {l:List (BV×BV)} {es:List MapEntry},zak γ l es->es.length=l.length:=by
       intro l
       induction l with
       | nil=>intro es he;cases es with|nil=>rfl|cons _ _=>exact he.elim
       | cons x l ih=>intro es he;cases es with|nil=>exact he.elim|cons y es=>simp[ih he.2.2]
      rw[<-Array.length_toList,key q3,q2.length_eq]
     refine fin _ rfl ?_
     simp[Builtin.len_,run_underlying hu',goInt,zbp q1,hlen]
    .cases hv
  .cases hv
 case cap=>
  split at hv
  .rename_i t x hts
   have hts:=ts1 hts
   subst hts
   obtain⟨u,rfl,hu⟩:=hx.one_inv
   unfold capV at hv
   split at hv
   .obtain ⟨h1,rfl⟩:=zbO hv
    obtain⟨e,hu'⟩:=zb2 hS.toTyOk h1
    cases hu
    exact⟨_,by simp[builtin,Builtin.cap_,run_underlying hu'];rfl,.i _ _⟩
   .obtain ⟨h1,rfl⟩:=zbO hv
    obtain⟨e,hu'⟩:=zb2 hS.toTyOk h1
    cases hu
    exact⟨_,by simp[builtin,Builtin.cap_,run_underlying hu'];rfl,.i _ _⟩
   .cases hv
  .cases hv
 case max=>
  obtain⟨x,y,q,rfl,hq,hr⟩:=two (g:=Builtin.max2) hv (by
   have key:∀ (k k':IntKind) (x y:Int),Builtin.max2 (.int k x) (.int k' y)=pure (.int k (zEm x y)):=by
    intro k k' x y
    simp only[Builtin.max2,zEm,ze2]
    by_cases hxy:x<y
    .rw [if_pos (by omega),decide_eq_true hxy]
    .rw [if_neg (by omega),decide_eq_false hxy]
   exact fun k x y=>⟨key k k x y,fun k'=>key k k' x y⟩)
  exact⟨q,by simp[builtin,Builtin.max_,hq],hr⟩
 case min=>
  obtain⟨x,y,q,rfl,hq,hr⟩:=two (g:=Builtin.min2) hv (by
   have key:∀ (k k':IntKind) (x y:Int),Builtin.min2 (.int k x) (.int k' y)=pure (.int k (zEl x y)):=by
    intro k k' x y
    simp only[Builtin.min2,zEl,ze2]
    by_cases hxy:y<x
    .rw [if_pos (by omega),decide_eq_true hxy]
    .rw [if_neg (by omega),decide_eq_false hxy]
   exact fun k x y=>⟨key k k x y,fun k'=>key k k' x y⟩)
  exact⟨q,by simp[builtin,Builtin.min_,hq],hr⟩
 case unsafeSliceData=>
  split at hv
  .rename_i x
   obtain⟨u,rfl,hu⟩:=hx.one_inv
   unfold usdV at hv
   split at hv
   .cases hv;cases hu
    exact⟨.pointer none,rfl,.np⟩
   .split at hv
    .cases hv
    .rename_i hc;cases hv
     cases hu with|sl _ _ _ _ g hg hcc=>
     have:=Nat.ne_of_beq_eq_false hc
     exact⟨_,znY (ts:=ts) (ty:=ty) (cs:=cs) this,.p _ _ g hg⟩
   .split at hv
    .cases hv
    .rename_i hc;cases hv
     cases hu with|sg _ _ _ _ g o hg hk h0 ho hcc=>
     have:=Nat.ne_of_beq_eq_false hc
     have hne:¬ (g.C-o=0):=by omega
     exact⟨_,znY (ts:=ts) (ty:=ty) (cs:=cs) hne,.p _ _ g hg⟩
   .cases hv
  .cases hv
theorem zf1(hS:VOk S)(hG:yC S C)(r:Rel C γ h w)(hs:yF γ σ a.tmps)(o:Oper){v:BV}(hv:evV S h o.op σ=some v):
 ∃ z,(execOp a.eval o).run S.P w=.ok (.value z) w/\zf γ v z:=by
 obtain⟨dst,op,type,pos,after,guard⟩:=o
 dsimp only at hv
 cases op <;> simp only[evV]at hv <;> (try (cases hv;done))
 case move x=>cases hv;exact⟨_,rfl,zo hs x⟩
 case assign x=>cases hv;exact⟨_,rfl,zo hs x⟩
 case pick c x y=>
  unfold zxb at hv
  have hc:=zo hs c
  cases hcv:opv σ c <;> rw[hcv]at hv hc <;> simp only[zuc]at hv <;> (try (cases hv;done))
  rename_i b
  cases hv
  generalize hq:a.eval c=q at hc
  cases hc
  cases b with
  | true=>exact⟨a.eval x,by simp[execOp,hq,asBool],zo hs x⟩
  | false=>exact⟨a.eval y,by simp[execOp,hq,asBool],zo hs y⟩
 case load t x=>
  obtain⟨z,h1,h2⟩:=zjh hS.toTyOk hG r hv (zo hs x)
  exact⟨z,by simp[execOp,h1],h2⟩
 case nilCheck x=>
  unfold zDM at hv
  have hx:=zo hs x
  cases hxv:opv σ x <;> rw[hxv]at hv hx <;> simp only[nilV]at hv <;> (try (cases hv;done))
  cases hv
  generalize hq:a.eval x=q at hx
  cases hx with|p _ _ g hg=>
  exact⟨.pointer (some ⟨g.b,_,none⟩),by simp[execOp,hq],.p _ _ g hg⟩
 case binOp o t x y yt=>
  rcases zdQ hv with hv|hv
  .obtain ⟨z,h1,h2⟩:=zlX hS (xo:=x) hv (zo hs x) (zo hs y) w
   exact⟨z,by simp only[execOp];rw[Sem.run_bind,h1];rfl,h2⟩
  .obtain ⟨z,h1,h2⟩:=zn4 hG r (t:=t) (xo:=x) (yo:=y) hv (zo hs x) (zo hs y)
   exact⟨z,by simp only[execOp];rw[Sem.run_bind,h1];rfl,h2⟩
 case unOp o t x=>
  unfold vUn at hv
  have hx:=zo hs x
  unfold unV at hv
  split at hv
  .rename_i b hb
   rw[hb]at hx
   cases hv
   generalize hq:a.eval x=q at hx
   cases hx
   exact⟨_,by simp[execOp,hq,Op.unary],.b _⟩
  .rename_i k n hb
   rw[hb]at hx
   cases hv
   generalize hq:a.eval x=q at hx
   cases hx
   exact⟨.int k (k.wrap (0-n)),by simp[execOp,hq,Op.unary,Op.intArith],by rw[zkf,zuh,show -n=0-n by omega];exact .i _ _⟩
  .cases hv
 case convert s d x=>
  rcases zdQ hv with hv|hv
  .obtain ⟨z,h1,h2⟩:=zrd hS.toTyOk hS.lies r hv (zo hs x)
   exact⟨z,by simp[execOp,h1],h2⟩
  .obtain ⟨z,h1,h2⟩:=zpP hS.toTyOk r hv (zo hs x)
   exact⟨z,by simp[execOp,h1],h2⟩
 case makeFunc fn fs cs=>
  unfold zxc at hv
  split at hv
  .cases hv
   exact⟨.func _ (fs.map a.eval) (cs.map a.eval),by simp[execOp,Instr.makeFunc],.f _ _ _ _ _ (by simpa using zci hs fs.toList) (by simpa using zci hs cs.toList)⟩
  .cases hv
 case slice t x lo hi mx=>
  rcases zdQ hv with hv|hv
  .obtain ⟨z,h1,h2⟩:=zoj hS.toTyOk r hv (zo hs x) (zbJ hs lo) (zbJ hs hi) (zbJ hs mx)
   exact⟨z,by simp[execOp,h1],h2⟩
  rcases zdQ hv with hv|hv
  .obtain ⟨z,h1,h2⟩:=zpN hS.toTyOk hG r hv (zo hs x) (zbJ hs lo) (zbJ hs hi) (zbJ hs mx)
   exact⟨z,by simp[execOp,h1],h2⟩
  .obtain ⟨z,h1,h2⟩:=zsR hS.toTyOk r hv (zo hs x) (zbJ hs lo) (zbJ hs hi) (zbJ hs mx)
   exact⟨z,by simp[execOp,h1],h2⟩
 case fieldAddr t x f=>
  unfold znX at hv
  have hx:=zo hs x
  cases hxv:opv σ x <;> rw[hxv]at hv hx <;> simp only[fldP]at hv <;> (try (cases hv;done))
  rename_i id off
  cases hfa:zsQ S t f with
  | none=>rw[hfa]at hv;cases hv
  | some fo=>
   rw[hfa]at hv
   cases hv
   generalize hq:a.eval x=q at hx
   cases hx with|p _ _ g hg=>
   unfold zsQ at hfa
   split at hfa
   .rename_i ft fo' hft
    split at hfa
    .rename_i k hk
     cases hfa
     obtain⟨fs,fd,hu,hfd,rfl,rfl⟩:=zjq hS.toTyOk hft
     have hsz:=zad hS.toTyOk hk w
     refine⟨.pointer (some ⟨g.b,off+fd.offset,none⟩),?_,.p _ _ g hg⟩
     simp[execOp,hq,Instr.fieldAt,run_underlying hu,hfd,Instr.sureAddr,fieldPlace,hsz,zC]
    .cases hfa
   .cases hfa
 case field t x f=>
  unfold zrM at hv
  have hx:=zo hs x
  split at hv
  .rename_i ft off l hf hl
   rw[hl]at hx
   generalize hq:a.eval x=q at hx
   cases hx with|a _ vs hvs=>
   split at hv
   .rename_i k hk
    split at hv
    .rename_i hb
     obtain⟨z,h1,h2⟩:=zqT hS.toTyOk hf hk (Nat.le_of_ble_eq_true hb) hv hvs w
     exact⟨z,by simp[execOp,hq,h1],h2⟩
    .cases hv
   .cases hv
  .cases hv
 case indexAddr t x i=>
  obtain⟨z,h1,h2⟩:=zmn (w:=w) hS.toTyOk hv (zo hs x) (zo hs i)
  exact⟨z,by simp[execOp,h1],h2⟩
 case index t x i=>
  rcases zdQ hv with hv|hv
  case inr=>
   obtain⟨z,h1,h2⟩:=zpO (w:=w) hS.toTyOk hv (zo hs x) (zo hs i)
   exact⟨z,by simp[execOp,h1],h2⟩
  have hx:=zo hs x
  have hi:=zo hs i
  cases hxv:opv σ x <;> rw[hxv]at hv hx <;> simp only[idxT]at hv <;> (try (cases hv;done))
  rename_i n c
  cases hst:zhs S t with
  | false=>rw[hst]at hv;cases hv
  | true=>
   rw[hst]at hv
   have hu:=zb1 hS.toTyOk hst
   have hv:zEI n c (zmm (opv σ i))=some v:=hv
   unfold zEI at hv
   split at hv
   .rename_i m hm
    obtain⟨kk,hik⟩:=zbY hm hi
    split at hv
    .rename_i hb;cases hv
     have hb:=zS hb
     generalize hq:a.eval x=q at hx
     cases hx
     refine⟨.int .u8 (.ofNat (zn c m)),?_,.i _ _⟩
     have hg:(⟨(dec n c).toArray⟩:ByteArray)[m]?=some (UInt8.ofNat (zn c m)):=by
      show(if h:m<(⟨(dec n c).toArray⟩:ByteArray).size then some _ else none)=_
      rw[dif_pos (by rw[za0];exact hb)]
      congr 1
      have:=yx n c m hb
      rw[List.getElem?_eq_getElem (by rw[zi];exact hb)]at this
      exact Option.some.inj this
     simp only[execOp,hq,hik,za1,Instr.index,asIntOf,Sem.run_bind,Sem.run_pure,Result.andThen_ok,run_underlying hu]
     rw[if_pos (by simp)]
     have e1:(Int.ofNat m).toNat=m:=rfl
     rw[e1,hg]
     show Result.ok (Next.value (.int .u8 ((UInt8.ofNat (zn c m)).toNat:Int))) w=_
     rw[zaw];rfl
    .cases hv
   .cases hv
 case lookup t x k ok=>
  obtain⟨z,h1,h2⟩:=zqs hS.toTyOk r hv (zo hs x) (zo hs k)
  exact⟨z,by simp[execOp,h1],h2⟩
 case extract x n=>
  unfold zDN at hv
  have hx:=zo hs x
  cases hxv:opv σ x <;> rw[hxv]at hv hx <;> simp only[tupG]at hv <;> (try (cases hv;done))
  rename_i l
  generalize hq:a.eval x=q at hx
  cases hx with|t _ vs hvs=>
  obtain⟨u,h1,h2⟩:=hvs.get? hv
  rw[Array.getElem?_toList]at h1
  exact⟨u,by simp[execOp,hq,Instr.extract,h1],h2⟩
 case build t ps=>
  obtain⟨z,h1,h2⟩:=zro hS.toTyOk hv (zgJ hs ps.toList) w
  refine⟨z,?_,h2⟩
  have:(ps.map fun x=>match x with|(i,x)=>(i,a.eval x))=(ps.toList.map fun p=>(p.1,a.eval p.2)).toArray:=by
   apply Array.ext';simp
  simp only[execOp,this,Sem.run_bind,h1]
  rfl
 case next it b=>
  unfold ztQ at hv
  have hx:=zo hs it
  split at hv
  .rename_i id hxv
   rw[hxv]at hx
   split at hv
   .rename_i c ho
    cases hv
    generalize hq:a.eval it=q at hx
    cases hx with|p _ _ g hg=>
    have:=r.ob id
    rw[ho]at this
    obtain⟨g',h1,h2⟩:=this
    rw[hg]at h1;cases h1
    refine⟨.tuple #[.bool false],?_,.t _ _ (.cons (.b false) .nil)⟩
    have hgo:(getObj g.b).run S.P w=.ok (.stringIter ⟨(dec 0 c).toArray⟩ 0) w:=by simp[getObj,Sem.run,h2]
    simp only[execOp,hq,Instr.next,Sem.run_bind,hgo,Result.andThen_ok]
    rw[if_neg (by rw[za0];omega)]
    rfl
   .cases hv
  .cases hv
 case call c=>
  obtain⟨callee,args,ts⟩:=c
  cases callee with
  | value f=>simp only[ztS,zCI,vN]at hv;cases hv
  | invoke r m=>simp only[ztS,zCI,vN]at hv;cases hv
  | builtin b=>
   simp only[ztS,zCI]at hv
   have key:∃ z,(builtin b ts type (args.map fun|.const _=>true|_=>false) (args.toList.map a.eval).toArray).run S.P w=.ok (.value z) w/\zf γ v z:=by
    rcases zdQ hv with hv|hv
    .exact zph hS r hv (zci hs args.toList) type _
    .exact zpQ hS hG r hv (zci hs args.toList) type _
   obtain⟨z,h1,h2⟩:=key
   refine⟨z,?_,h2⟩
   have:args.map a.eval=(args.toList.map a.eval).toArray:=by apply Array.ext';simp
   simp only[execOp,resolve,Sem.run_bind,Sem.run_pure,Result.andThen_ok,invoke,this]
   exact h1
end Go.Bm
/-! Operations that make memory. -/
namespace Go.Bm
open Go Go.RowKit
variable {S:zd}{γ γ':Nat->Option G}{C:Ctx}{h:Hp}{w w':World}{σ:Tr BV}{a:Act}{P:Program}
structure zdl(w w':World)(g:G):Prop where
 os:w'.os=w.os
 tape:w'.tape=w.tape
 output:w'.output=w.output
 lo:w.heap.size<=g.b
 hi:g.b<w'.heap.size
 old:∀ b,b<w.heap.size->w'.heap[b]?=w.heap[b]?
theorem zdl.alloc(w:World)(o:Obj)(k c:Nat):zdl w (w.alloc o) ⟨w.heap.size,k,c,none,[]⟩:=
 ⟨rfl,rfl,rfl,Nat.le_refl _,by simp,fun b hb=>Below.heap_alloc w o b hb⟩
theorem zbD(w:World)(o:Obj):(w.alloc o).heap[w.heap.size]?=some o:=heap_alloc_new w o
theorem zeC:∀ {l:List BV},zbb l=true->∀ {i:Nat} {x:BV},l[i]?=some x->one x=true
 | [],_,i,x,hx=>by cases hx
 | y::l,h,i,x,hx=>by
  simp only[zbb,Bool.and_eq_true]at h
  cases i with
  | zero=>simp at hx;subst hx;exact h.1
  | succ i=>exact zeC h.2 (by simpa using hx)
theorem zum(l:List BV)(j:Nat)(hj:j<l.length):some ((mkT l).get j)=l[j]?:=by
 unfold mkT ofL
 have:=Tr.sets_get? l .e 0 j hj
 rwa [Nat.zero_add]at this
theorem zyv{id e:Nat}{g:G}{l:List BV}{vs:Array Value}(hg:γ id=some g)(hl:zm γ l vs.toList)(h1:zbb l=true)(hh:w.heap[g.b]?=some (.cells vs e (0,0)))(hs:vs.size=g.C*g.k):OM γ w id (mkC e l):=by
 have hlen:vs.size=l.length:=by rw[<-Array.length_toList];exact hl.length
 refine⟨g,vs,hg,hh,by omega,hs,fun j hj=>?_⟩
 have hx:=zum l j hj
 obtain⟨v,h2,h3⟩:=hl.get? hx.symm
 have e:vs.getD j undef=v:=by rw[Array.getElem?_toList]at h2;rw[Array.getD_eq_getD_getElem?,h2];rfl
 rw[e]
 exact⟨h3,h3.one (zeC h1 hx.symm)⟩
theorem zBm{id e n k:Nat}{g:G}{l:List BV}{news:List Value}{cur:Array Value}(hg:γ id=some g)(hk:g.k=k)(hl:zm γ l news)(h1:zbb l=true)(hh:w.heap[g.b]?=some (.cells cur e (0,0)))(hs:cur.size=g.C*k)
 (ht:cur.toList.take (n*k)=news) (hn:n*k=l.length) (hc:n<=g.C):OM γ w id (mkC e l):=by
 have hnk:n*k<=cur.size:=by rw[hs];exact Nat.mul_le_mul_right k hc
 refine⟨g,cur,hg,hh,by omega,by rw[hk];exact hs,fun j hj=>?_⟩
 have hx:=zum l j hj
 obtain⟨v,h2,h3⟩:=hl.get? hx.symm
 have e:cur.getD j undef=v:=by
  rw[<-ht,List.getElem?_take_of_lt (by omega),Array.getElem?_toList]at h2
  rw[Array.getD_eq_getD_getElem?,h2];rfl
 rw[e]
 exact⟨h3,h3.one (zeC h1 hx.symm)⟩
theorem zt6{id e n c:Nat}{g:G}{cur:Array Value}(hg:γ id=some g)(hk:g.k=1)(hh:w.heap[g.b]?=some (.cells cur e (0,0)))(hs:cur.size=g.C)(ht:cur.toList.take n=(List.range n).map (zq c))(hc:n<=g.C):OM γ w id (.bs e 0 n c):=by
 refine⟨g,cur,(0,0),hg,hh,hk,hs,by omega,rfl,fun j hj=>?_⟩
 have h1:(cur.toList.take n)[j]?=some (zq c j):=by rw[ht];simp[hj]
 rw[List.getElem?_take_of_lt hj,Array.getElem?_toList]at h1
 exact h1
theorem zld{id e n k:Nat}{g:G}{q:Row}{ob:Ob}{news:List Value}{cur:Array Value}(hm:zdS S e k q=some ob)(hr:yb γ k n q news)(hg:γ id=some g)(hk:g.k=k)(hh:w.heap[g.b]?=some (.cells cur e (0,0)))(hs:cur.size=g.C*k)
 (ht:cur.toList.take (n*k)=news) (hc:n<=g.C):OM γ w id ob:=by
 cases q with
 | bs m c=>
  obtain⟨h1,h2,rfl,h3,h4,h5⟩:=hr
  simp only[zdS]at hm
  split at hm
  .rename_i _ hb
   have:=Nat.eq_of_beq_eq_true hb
   cases hm
   subst this
   rw[Nat.mul_one]at ht hs
   exact zt6 hg hk hh hs (ht.trans h5) hc
  .split at hm
   .rename_i h0;cases hm
    exact⟨g,cur,hg,hh,by omega,by rw[hk];exact hs,fun j hj=>by omega⟩
   .cases hm
  .cases hm
 | c l=>
  obtain⟨h1,h2,h3⟩:=hr
  have hlen:n*k=l.length:=by rw[<-h1];exact h3.length
  simp only[zdS]at hm
  split at hm
  .rename_i _ hb
   have:=Nat.eq_of_beq_eq_true hb
   split at hm
   .rename_i c hp;cases hm
    subst this
    obtain⟨p1,p2⟩:=zbq hp h3
    rw[Nat.mul_one]at ht hs hlen
    subst hlen
    exact zt6 hg hk hh hs (ht.trans p2) hc
   .cases hm
  .split at hm
   .rename_i h1';cases hm
    exact zBm hg hk h3 h1' hh hs ht hlen hc
   .cases hm
  .cases hm
theorem zef:∀ (n:Nat) (z acc:List BV),(rep n z acc).length=n*z.length+acc.length
 | 0,z,acc=>by simp[rep]
 | n+1,z,acc=>by simp only[rep,zef n,List.length_append,Nat.add_mul];omega
theorem zp4:∀ (n:Nat) (z acc:List BV) (j:Nat),(rep n z acc)[n*z.length+j]?=acc[j]?
 | 0,z,acc,j=>by simp[rep]
 | n+1,z,acc,j=>by
  have:=zp4 n z (z++acc) (z.length+j)
  simp only[rep]
  rw[Nat.add_mul,Nat.one_mul,Nat.add_assoc,this,List.getElem?_append_right (by omega)]
  congr 1;omega
theorem zt8:∀ (n:Nat) (z acc:List BV) (i:Nat),i<n*z.length->(rep n z acc)[i]?=z[i % z.length]?
 | 0,z,acc,i,h=>by omega
 | n+1,z,acc,i,h=>by
  simp only[rep]
  rcases Nat.lt_or_ge i (n*z.length)with hi|hi
  .exact zt8 n z (z++acc) i hi
  .obtain ⟨j,rfl⟩:∃ j,i=n*z.length+j:=⟨i-n*z.length,by omega⟩
   have hj:j<z.length:=by rw[Nat.add_mul]at h;omega
   rw[zp4,List.getElem?_append_left hj,Nat.mul_add_mod_of_lt' hj]
 where
 Nat.mul_add_mod_of_lt' {n m j:Nat} (h:j<m):(n*m+j) % m=j:=by rw[Nat.mul_comm,Nat.mul_add_mod,Nat.mod_eq_of_lt h]
theorem zjY{n k:Nat}{zv:Value}(hk:(cvl zv.cells.toList).length=k):zm γ (rep n (cvl zv.cells.toList) []) (madeCells zv.cells (n*k)).toList:=by
 have hz:zv.cells.size=k:=by rw[<-hk,zc9,Array.length_toList]
 refine zm.of_get (by rw[zef,hk,Array.length_toList,size_madeCells];simp) fun i x v hx hv=>?_
 have hi:i<n*k:=by
  rcases Nat.lt_or_ge i (n*k)with h|h
  .exact h
  .rw [List.getElem?_eq_none (by rw[zef,hk];simpa using h)]at hx;cases hx
 rw[zt8 _ _ _ _ (by rw[hk];exact hi),hk]at hx
 have hlt:i % k<zv.cells.size:=by
  rw[hz]
  refine Nat.mod_lt _ ?_
  rcases Nat.eq_zero_or_pos k with h0|h0
  .rw [h0,Nat.mul_zero]at hi;omega
  .exact h0
 have hv':v=zv.cells[i % zv.cells.size]!:=by
  rw[Array.getElem?_toList]at hv
  simp only[madeCells,Array.getElem?_map,Array.getElem?_range,if_pos hi,Option.map_some]at hv
  exact(Option.some.inj hv).symm
 rw[hz]at hv'
 rw[hv',getElem!_pos zv.cells _ hlt]
 obtain⟨u,h1,h2⟩:=(zhQ (γ:=γ) zv.cells.toList).get? hx
 rw[Array.getElem?_toList,Array.getElem?_eq_getElem hlt]at h1
 cases h1
 exact h2
theorem zow{l:List BV}{news:List Value}(h:zm γ l news)(h1:zbb l=true):∀ u ∈ news,u.oneCell'=true:=by
 intro u hu
 obtain⟨i,hi⟩:=List.getElem?_of_mem hu
 cases hx:l[i]? with
 | none=>
  have:=h.length
  rw[List.getElem?_eq_none_iff]at hx
  rw[List.getElem?_eq_none (by omega)]at hi;cases hi
 | some x=>
  obtain⟨v,h2,h3⟩:=h.get? hx
  rw[h2]at hi;cases hi
  exact h3.one (zeC h1 hx)
theorem ziv{e k:Nat}{l:List BV}{ob:Ob}(hm:zdS S e k (.c l)=some ob){news:List Value}(h:zm γ l news):∀ u ∈ news,u.oneCell'=true:=by
 simp only[zdS]at hm
 split at hm
 .split at hm
  .rename_i c hp
   obtain⟨_,p2⟩:=zbq hp h
   rw[p2];exact zaE _ _
  .cases hm
 .split at hm
  .rename_i h1;exact zow h h1
  .cases hm
 .cases hm
theorem zf2(hS:VOk S)(hs:yF γ σ a.tmps){id:Nat}(hu:γ id=none)(o:Oper){v:BV}{ob:Ob}(hv:evB S o.op σ id=some (v,ob))(w:World):
 ∃ z w' g,(execOp a.eval o).run S.P w=.ok (.value z) w'/\zdl w w' g/\zf (upd γ id (some g)) v z/\OM (upd γ id (some g)) w' id ob:=by
 have hγ:∀ g,GLe γ (upd γ id (some g)):=fun g i g' hi=>by
  by_cases e:i=id
  .subst e;rw[hu]at hi;cases hi
  .rw [zh _ _ e];exact hi
 have hT:=hS.toTyOk
 obtain⟨dst,op,type,pos,after,guard⟩:=o
 dsimp only at hv
 cases op <;> simp only[evB]at hv <;> (try (cases hv;done))
 case alloc t=>
  unfold ztr at hv
  split at hv
  .rename_i l hz
   split at hv
   .rename_i h1
    cases hv
    obtain⟨zv,hz1,rfl,_⟩:=ye hT hz
    refine⟨.pointer (some ⟨w.heap.size,0,none⟩),w.alloc (.cells zv.cells t),⟨w.heap.size,1,zv.cells.size,none,[]⟩,?_,zdl.alloc _ _ _ _,.p id 0 _ (zc _ _ _),zyv (zc _ _ _) (zhQ _) h1 (zbD _ _) (by simp)⟩
    simp[execOp,Instr.alloc,hz1,newVar,newRow]
   .cases hv
  .cases hv
 case box t x=>
  unfold zCN at hv
  split at hv
  .rename_i h1
   cases hv
   have hok:okV (opv σ x)=true:=by
    cases hx:opv σ x <;> rw[hx]at h1 <;> first|rfl|(simp[cellsOf,zbb,one]at h1)
   have hc:=ziW hok (zo hs x)
   refine⟨.pointer (some ⟨w.heap.size,0,none⟩),w.alloc (.cells (a.eval x).cells t),⟨w.heap.size,1,(a.eval x).cells.size,none,[]⟩,?_,zdl.alloc _ _ _ _,.p id 0 _ (zc _ _ _),zyv (zc _ _ _) (hc.mono (hγ _)) h1 (zbD _ _) (by simp)⟩
   simp[execOp,Instr.box,newVar,newRow]
  .cases hv
 case buildSlice t n ps=>
  unfold zpk at hv
  split at hv
  .rename_i e he
   split at hv
   .rename_i k z hk hz
    split at hv
    .rename_i hb
     rw[Bool.and_eq_true]at hb
     have hb1:n*(k+1)<=16777216:=Nat.le_of_ble_eq_true hb.1
     have hb2:z.length=k+1:=Nat.eq_of_beq_eq_true hb.2
     split at hv
     .rename_i l hf
      split at hv
      .rename_i ob' hm
       cases hv
       obtain⟨zv,hz1,rfl,_⟩:=ye hT hz
       obtain⟨cells',h1,h2,h3⟩:=zc8 (γ:=γ) _ _ _ _ _ (madeCells zv.cells (n*(k+1))) hf (zgJ hs ps.toList) (zjY hb2)
       have hlen:l.length=n*(k+1):=by rw[h3,zef,hb2];simp
       have hsz:cells'.size=n*(k+1):=by rw[<-Array.length_toList,h2.length,hlen]
       have hrow:yb (upd γ id (some ⟨w.heap.size,k+1,n,none,[]⟩)) (k+1) n (.c l) cells'.toList:=⟨by rw[h2.length,hlen],ziv hm h2,h2.mono (hγ _)⟩
       refine⟨.slice (some ⟨w.heap.size,0,none⟩) n n,w.alloc (.cells cells' e),⟨w.heap.size,k+1,n,none,[]⟩,?_,zdl.alloc _ _ _ _,.sl id 0 n n _ (zc _ _ _) (Nat.le_refl _),
        zld hm hrow (zc _ _ _) rfl (zbD _ _) hsz (by rw[List.take_of_length_le (by rw[Array.length_toList,hsz];exact Nat.le_refl _)]) (Nat.le_refl _)⟩
       have hle:¬ (n*(k+1)>2^24):=by omega
       have hu':=zaR hT he
       have e1:(ps.map fun(x:Nat×Operand)=>(x.1,a.eval x.2)).toList=ps.toList.map fun p=>(p.1,a.eval p.2):=by simp
       by_cases h0:n*(k+1)=0
       .have hc':Instr.fill (fun i=>some (i*(k+1),k+1)) #[] (ps.map fun(x:Nat×Operand)=>(x.1,a.eval x.2)).toList=some cells':=by
         rw[e1]
         have:=h1
         rw[h0]at this
         simpa[madeCells,Array.range_zero']using this
        have hrun:(Instr.buildSlice t n (ps.map fun(x:Nat×Operand)=>(x.1,a.eval x.2))).run S.P w=.ok (.slice (some ⟨w.heap.size,0,none⟩) n n) (w.alloc (.cells cells' e)):=by
         simp only[Instr.buildSlice,Sem.run_bind,run_underlying hu',Result.andThen_ok,zad hT hk,h0,if_true,Array.range_zero',Array.map_empty,hc',newRow]
         rfl
        simp only[execOp,Sem.run_bind]
        rw[hrun]
        rfl
       .have hc':Instr.fill (fun i=>some (i*(k+1),k+1)) ((Array.range (n*(k+1))).map (zv.cells[· % zv.cells.size]!)) (ps.map fun(x:Nat×Operand)=>(x.1,a.eval x.2)).toList=some cells':=by
         rw[e1];exact h1
        have hrun:(Instr.buildSlice t n (ps.map fun(x:Nat×Operand)=>(x.1,a.eval x.2))).run S.P w=.ok (.slice (some ⟨w.heap.size,0,none⟩) n n) (w.alloc (.cells cells' e)):=by
         simp only[Instr.buildSlice,Sem.run_bind,run_underlying hu',Result.andThen_ok,zad hT hk,hle,if_false,h0,hz1,Sem.run_pure,hc',newRow]
         rfl
        simp only[execOp,Sem.run_bind]
        rw[hrun]
        rfl
      .cases hv
     .cases hv
    .cases hv
   .cases hv
  .cases hv
 case makeSlice t l c=>
  unfold zu2 at hv
  split at hv
  .rename_i e n m he hn hm
   split at hv
   .rename_i k z bb hk hz hbb
    split at hv
    .rename_i hb
     rw[Bool.and_eq_true,Bool.and_eq_true]at hb
     have hb1:z.length=k+1:=Nat.eq_of_beq_eq_true hb.1
     have hb2:n<=m:=Nat.le_of_ble_eq_true hb.2.1
     have hb3:m*(bb+1)<=16777216:=Nat.le_of_ble_eq_true hb.2.2
     split at hv
     .rename_i ob' hmk
      cases hv
      obtain⟨zv,hz1,rfl,i,hi,hzi⟩:=ye hT hz
      have hbi:i.bytes=bb:=by
       unfold bts at hbb
       split at hbb
       .rename_i j hj
        have:=hT.ty _ _ hj
        rw[hi]at this;cases this
        exact Option.some.inj hbb
       .cases hbb
      have hki:i.size=k+1:=by
       unfold sz at hk
       split at hk
       .rename_i j hj
        have:=hT.ty _ _ hj
        rw[hi]at this;cases this
        exact Option.some.inj hk
       .cases hk
      obtain⟨k1,e1⟩:=zbY hn (zo hs l)
      obtain⟨k2,e2⟩:=zbY hm (zo hs c)
      have hmb:m*bb<=16777216:=by rw[Nat.mul_add]at hb3;omega
      have hm0:m<=16777216:=by rw[Nat.mul_add]at hb3;omega
      have hrun:=run_make (P:=S.P) w t e i zv (zaR hT he) hi hzi k1 k2 (.ofNat n) (.ofNat m) (by simp) (by simp;omega) (by
       rw[hbi,show(bb:Int)*Int.ofNat m=((bb*m:Nat):Int) by simp]
       rw[Nat.mul_comm];omega) (by simp;omega)
      have e3:(Int.ofNat m).toNat=m:=rfl
      have e4:(Int.ofNat n).toNat=n:=rfl
      rw[e3,e4,hki]at hrun
      have hrel:=zjY (γ:=γ) (n:=m) (zv:=zv) hb1
      have hrow:yb (upd γ id (some ⟨w.heap.size,k+1,m,none,[]⟩)) (k+1) m (.c (rep m (cvl zv.cells.toList) [])) (madeCells zv.cells (m*(k+1))).toList:=⟨by rw[Array.length_toList,size_madeCells],ziv hmk hrel,hrel.mono (hγ _)⟩
      refine⟨.slice (some ⟨w.heap.size,0,none⟩) n m,w.alloc (.cells (madeCells zv.cells (m*(k+1))) e),⟨w.heap.size,k+1,m,none,[]⟩,?_,zdl.alloc _ _ _ _,.sl id 0 n m _ (zc _ _ _) hb2,
       zld hmk hrow (zc _ _ _) rfl (zbD _ _) (size_madeCells _ _) (by rw[List.take_of_length_le (by rw[Array.length_toList,size_madeCells];exact Nat.le_refl _)]) (Nat.le_refl _)⟩
      simp only[execOp,e1,e2,Sem.run_bind,hrun,Result.andThen_ok]
      rfl
     .cases hv
    .cases hv
   .cases hv
  .cases hv
 case makeMap t q=>
  unfold zFf at hv
  split at hv
  .cases hv
   refine⟨.map (some w.heap.size),w.alloc (.map #[] 0),⟨w.heap.size,1,0,none,[]⟩,?_,zdl.alloc _ _ _ _,.m id _ (zc _ _ _),⟨_,#[],0,[],zc _ _ _,zbD _ _,.refl _,trivial,trivial⟩⟩
   simp[execOp,Instr.makeMap]
  .cases hv
 case convert sT d x=>
  unfold zu3 at hv
  split at hv
  .rename_i e u n c he hsu hx
   split at hv
   .rename_i h8
    cases hv
    have hxr:=zo hs x
    rw[hx]at hxr
    generalize hq:a.eval x=q at hxr
    cases hxr with|s _ _ hc=>
    have hrun:=Lib.run_convert_string_bytes (P:=S.P) w sT d e ⟨(dec n c).toArray⟩ (zB hT hsu) (zaR hT he) (zfT hT h8)
    have hsz:(⟨(dec n c).toArray⟩:ByteArray).size=n:=za0 n c
    have hge:=grownCap_ge w n 0 e
    have hcs:(Lib.bytesCells w e ⟨(dec n c).toArray⟩).size=grownCap w n 0 e:=by
     simp[Lib.bytesCells,hsz]
     rw[zi];omega
    refine⟨.slice (some ⟨w.heap.size,0,none⟩) n (grownCap w n 0 e-0),Lib.bytesWorld w e ⟨(dec n c).toArray⟩,⟨w.heap.size,1,grownCap w n 0 e,none,[]⟩,?_,⟨rfl,rfl,rfl,Nat.le_refl _,by rw[Lib.bytesWorld_size];exact Nat.lt_succ_self _,fun b hb=>Lib.bytesWorld_at_old w e _ b hb⟩,
     .sg 1 id 0 n _ 0 (zc _ _ _) rfl (by decide) (by simp) (by simpa using hge),⟨_,_,_,zc _ _ _,Lib.bytesWorld_at_new w e _,rfl,hcs,by rw[hcs];exact hge,?_,fun j hj=>?_⟩⟩
    .simp only[execOp,hq,za1,Sem.run_bind,hrun,Result.andThen_ok,hsz]
     rfl
    .intro q hq;dsimp only;omega
    .have h1:j<(⟨(dec n c).toArray⟩:ByteArray).size:=by rw[hsz];exact hj
     have:=Lib.bytesWorld_cell w e ⟨(dec n c).toArray⟩ j h1
     rw[cell_of_row _ _ _ _ _ _ (Lib.bytesWorld_at_new w e _)]at this
     rw[this]
     have h2:((⟨(dec n c).toArray⟩:ByteArray).data.toList.getD j 0)=UInt8.ofNat (zn c j):=by
      show((dec n c).toArray.toList.getD j 0)=_
      rw[List.getD_eq_getElem?_getD,show(dec n c).toArray.toList=dec n c from rfl,yx n c j hj];rfl
     rw[h2,zaw];rfl
   .cases hv
  .rename_i e u l he hsu hx
   split at hv
   .rename_i n qs h8 hlr
    cases hv
    have hxr:=zo hs x
    rw[hx]at hxr
    generalize hq:a.eval x=q at hxr
    cases hxr with|rp _ t ht=>
    obtain⟨m,hm1,hm2⟩:=zag ht
    rw[hlr]at hm1 hm2
    dsimp only at hm1 hm2
    have hrun:=Lib.run_convert_string_bytes (P:=S.P) w sT d e ⟨t.toArray⟩ (zB hT hsu) (zaR hT he) (zfT hT h8)
    have hsz:(⟨t.toArray⟩:ByteArray).size=t.length:=zif t
    have hge:=grownCap_ge w t.length 0 e
    have hcs:(Lib.bytesCells w e ⟨t.toArray⟩).size=grownCap w t.length 0 e:=by
     simp[Lib.bytesCells,hsz]
     omega
    have hsx:=zea (γ:=upd γ id (some ⟨w.heap.size,1,grownCap w t.length 0 e,none,[]⟩)) (id:=id) (c:=n) (zc _ _ _) rfl (hm1.mono (hγ _)) (by dsimp only;omega)
    rw[<-hm2]at hsx
    refine⟨.slice (some ⟨w.heap.size,0,none⟩) t.length (grownCap w t.length 0 e-0),Lib.bytesWorld w e ⟨t.toArray⟩,⟨w.heap.size,1,grownCap w t.length 0 e,none,[]⟩,?_,⟨rfl,rfl,rfl,Nat.le_refl _,by rw[Lib.bytesWorld_size];exact Nat.lt_succ_self _,fun b hb=>Lib.bytesWorld_at_old w e _ b hb⟩,
     hsx,⟨_,_,_,t,zc _ _ _,Lib.bytesWorld_at_new w e _,rfl,hcs,ht.mono (hγ _),by rw[hcs];exact hge,?_,fun j b hb=>?_⟩⟩
    .simp only[execOp,hq,Sem.run_bind,hrun,Result.andThen_ok,hsz]
     rfl
    .intro q hq;dsimp only;omega
    .have hj:j<t.length:=by
      rcases Nat.lt_or_ge j t.length with h|h
      .exact h
      .rw [List.getElem?_eq_none h]at hb;cases hb
     have h1:j<(⟨t.toArray⟩:ByteArray).size:=by rw[hsz];exact hj
     have:=Lib.bytesWorld_cell w e ⟨t.toArray⟩ j h1
     rw[cell_of_row _ _ _ _ _ _ (Lib.bytesWorld_at_new w e _)]at this
     rw[this]
     have h2:((⟨t.toArray⟩:ByteArray).data.toList.getD j 0)=b:=by
      show(t.toArray.toList.getD j 0)=_
      rw[List.getD_eq_getElem?_getD,show t.toArray.toList=t from rfl,hb];rfl
     rw[h2];rfl
   .cases hv
  .cases hv
 case range t x=>
  unfold zpl at hv
  split at hv
  .rename_i n c hu' hx
   cases hv
   have hxr:=zo hs x
   rw[hx]at hxr
   generalize hq:a.eval x=q at hxr
   cases hxr with|s _ _ hc=>
   refine⟨.pointer (some ⟨w.heap.size,0,none⟩),w.alloc (.stringIter ⟨(dec n c).toArray⟩ 0),⟨w.heap.size,1,0,none,[]⟩,?_,zdl.alloc _ _ _ _,.p id 0 _ (zc _ _ _),⟨_,zc _ _ _,zbD _ _⟩⟩
   simp[execOp,hq,za1,Instr.range,yi hT hu']
  .cases hv
end Go.Bm
