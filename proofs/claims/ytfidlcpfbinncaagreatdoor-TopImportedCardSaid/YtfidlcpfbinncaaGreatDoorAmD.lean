/-
  An abstract machine over texts and its soundness; no condition of its own.
-/
import Derived.Scope
import Derived.Test.YtfidlcpfbinncaaGreatDoorAmC
set_option linter.unusedVariables false
noncomputable section
/-! Drawn regions: a store may go ahead of reads of other objects;which objects they are is seen at the end of the one order that was run. -/
namespace Go.Am
open Go Go.RowKit
variable {P:Program}{C:Ctx}{s s':S}{a a':Act}{w w':World}
def zjU:Op->Bool
 | .store _ _ _=>true
 | _=>false
def zgF:Op->Bool
 | .load _ _=>true
 | .indexAddr _ _ _=>true
 | _=>false
def zgK:List AV->Option Nat
 | .ref id _::_=>some id
 | .aptr id _ _::_=>some id
 | _=>none
def offB(id:Nat):AV->Bool
 | .ref j _=>!Nat.beq j id
 | .aptr j _ _=>!Nat.beq j id
 | .arr j=>!Nat.beq j id
 | .p _=>true
 | _=>false
def zBh(ys xs:List AV):Bool:=match zgK xs with
 | some id=>ys.all (offB id)
 | none=>false
theorem zie{id:Nat}:∀ {ys:List AV},ys.all (offB id)=true->zbS none ys=(ys,[])
 | [],_=>rfl
 | y::r,h=>by
  rw[List.all_cons,Bool.and_eq_true]at h
  have h2:=zie h.2
  cases y <;> first|(simp only[offB,Bool.false_eq_true]at h;exact absurd h.1 (by decide))|(simp only[zbS,zdB,h2];rfl)
theorem zoM{xs:List AV}{id:Nat}(h:zgK xs=some id):zgK (zbS none xs).1=some id:=by
 cases xs with
 | nil=>cases h
 | cons x r=>cases x <;> first|exact h|cases h
theorem zsV{ob:Nat->Option AObj}{id:Nat}{o:Option AObj}{t:TypeId}{ys:List AV}(h:ys.all (offB id)=true):zct P (upd ob id o) t ys=zct P ob t ys:=by
 cases ys with
 | nil=>rfl
 | cons y r=>
  rw[List.all_cons,Bool.and_eq_true]at h
  cases r with
  | nil=>
   cases y with
   | ref j k=>
    have hj:j≠id:=fun e=>by have h1:=h.1;rw[e]at h1;simp[offB]at h1
    simp only[zct,zh _ _ hj]
   | aptr j k l=>
    have hj:j≠id:=fun e=>by have h1:=h.1;rw[e]at h1;simp[offB]at h1
    simp only[zct,zh _ _ hj]
   | p x=>cases x <;> rfl
   | _=>rfl
  | cons z r=>cases y <;> first|rfl|(rename_i x;cases x <;> rfl)
theorem zzx{ob:Nat->Option AObj}{id:Nat}{o:Option AObj}{t:TypeId}{ys:List AV}(h:ys.all (offB id)=true):yW P (upd ob id o) t ys=yW P ob t ys:=by
 cases ys with
 | nil=>rfl
 | cons y r=>
  rw[List.all_cons,Bool.and_eq_true]at h
  cases y with
  | arr j=>
   have hj:j≠id:=fun e=>by have h1:=h.1;rw[e]at h1;simp[offB]at h1
   cases r with
   | nil=>rfl
   | cons z r=>
    cases r with
    | nil=>cases z <;> first|rfl|(rename_i x;cases x <;> first|rfl|simp only[yW,zh _ _ hj])
    | cons _ _=>cases z <;> first|rfl|(rename_i x;cases x <;> rfl)
  | _=>rfl
theorem zj6{env:Env}{ob:Nat->Option AObj}{id:Nat}{o:Option AObj}{op:Op}{ys:List AV}(hop:zgF op=true)(h:ys.all (offB id)=true):evV P env (upd ob id o) op ys=evV P env ob op ys:=by
 unfold evV
 cases op <;> simp only[zgF,Bool.false_eq_true]at hop
 .simp only[evL,zsV h,evC]
 .simp only[evL,zzx h,evC]
theorem zsT{ob:Nat->Option AObj}{t:TypeId}{xs:List AV}{id:Nat}{r:Nat×AObj×Option Prop}(hi:zgK xs=some id)(h:zdv P ob t xs=some r):r.1=id:=by
 unfold zdv at h
 repeat' split at h
 all_goals first|cases h|skip
 all_goals (simp only[zgK,Option.some.injEq]at hi;exact hi)
theorem zFE{env:Env}{nt:Nat}{ops:Array Oper}{x y:Oper}{s s1 s2:S}{p1 p2:List Prop}(hap:Oper.apart ops y x=true)(hy:zgF y.op=true)(hx:zjU x.op=true)(hyg:y.guard=none)
 (hsep:zBh (zA s y) (zA s x)=true) (h1:yh P env nt ops y s=some (s1,p1)) (h2:yh P env nt ops x s1=some (s2,p2)):
 ∃ s1',yh P env nt ops x s=some (s1',p2)/\yh P env nt ops y s1'=some (s2,p1):=by
 obtain⟨a1,a2,a3⟩:=zaj hap
 have ey:zah y.op=false:=by cases hop:y.op <;> rw[hop]at hy <;> first|rfl|cases hy
 have ex:zah x.op=true:=by cases hop:x.op <;> rw[hop]at hx <;> first|rfl|cases hx
 rw[zP ey]at h1
 obtain⟨ry,hry,he⟩:=map_some h1
 cases he
 rw[zL ex]at h2
 obtain⟨hv,e1,e2,_⟩:=za3 h2
 have hs:=e2 s.sl (yY a1 s.sl ry.v).symm (yz a1 s.sl ry.v).symm
 refine⟨{ s2 with sl:=zX s.sl x.dst hv },by rw[zL ex];exact hs,?_⟩
 rw[zP ey]
 have hob:∃ id o,s2.ob=upd s.ob id o/\zgK (zA s x)=some id:=by
  unfold zBh at hsep
  split at hsep
  .rename_i id hid
   unfold zdw at hs
   split at hs
   .obtain ⟨⟨s3,ok⟩,hE,he⟩:=map_some hs
    have hs3:s3.ob=s2.ob:=by
     have:=congrArg (fun q:S×List Prop=>q.1.ob) he
     exact this
    unfold evE at hE
    cases hop:x.op <;> rw[hop]at hx hE <;> first|cases hx|skip
    rename_i t u v
    dsimp only at hE
    split at hE
    .obtain ⟨r,hr,hr2⟩:=map_some hE
     have hid2:zgK (zbS none (zA s x)).1=some id:=zoM hid
     have hr3:r.1=id:=by
      refine zsT (P:=P) hid2 (r:=r) (ob:=s.ob) (t:=t) ?_
      unfold zA
      rw[hop]
      exact hr
     cases hr2
     refine⟨id,some r.2.1,?_,hid⟩
     rw[<-hr3];exact hs3.symm
    .cases hE
   .cases hs
  .cases hsep
 obtain⟨id,o,hob,hid⟩:=hob
 have hoff:(zA s y).all (offB id)=true:=by
  unfold zBh at hsep
  rw[hid]at hsep
  exact hsep
 have hmem:yv P env nt ops y s.sl s2.ob=some ry:=by
  rw[hob,<-hry]
  have hg:zD ops s.sl y=some none:=by unfold zD;rw[hyg]
  have hst:zy none y.op (y.op.operands.toList.map (aev s.sl))=(zA s y,[]):=by
   have:zy none y.op (zA s y)=zbS none (zA s y):=by
    cases hop:y.op <;> rw[hop]at hy <;> first|rfl|cases hy
   exact this.trans (zie hoff)
  unfold yv
  rw[hg]
  cases yu nt y.dst with
  | false=>rfl
  | true=>
   dsimp only
   rw[hst]
   dsimp only
   rw[zj6 hy hoff]
 have:yv P env nt ops y (zX s.sl x.dst hv) s2.ob=some ry:=by
  rw[zbn (P:=P) a3];exact hmem
 show(yv P env nt ops y (zX s.sl x.dst hv) s2.ob).map _=_
 rw[this]
 simp only[Option.map_some,zcu]
 have e4:zX (zX s.sl x.dst hv) y.dst ry.v=s2.sl:=by
  rw[e1]
  show _=zX (zX s.sl y.dst ry.v) x.dst hv
  rw[zbv hv ry.v (fun d hd e=>a2 d e hd)]
 rw[e4]
def noGd:AV->Bool
 | .gd _ _=>false
 | _=>true
def zD0(ys xs:List AV):Option Nat->Bool
 | some d=>ys.all (offB d)&&(match xs with
  | .arr o::_=>ys.all (offB o)
  | _=>true)
 | none=>false
def zDZ(ox:Oper)(ys xs:List AV):Bool:=match zjU ox.op with
 | true=>zBh ys xs
 | false=>zaW ox.op&&(xs.all noGd&&zD0 ys xs ox.dst)
theorem zvq{x y:AV}{id:Nat}{xs:List AV}(h:(zbS none xs).1=[x,y])(hx:x=.arr id):∃ r,xs=.arr id::r\/∃ c,xs=.gd c (.arr id)::r:=by
 cases xs with
 | nil=>cases h
 | cons z r=>
  subst hx
  cases z with
  | gd c w=>
   have h1:w=.arr id:=by
    have:=congrArg (fun l:List AV=>l.head?) h
    simpa[zbS,zdB]using this
   exact⟨r,.inr ⟨c,by rw[h1]⟩⟩
  | _=>
   have h1:=congrArg (fun l:List AV=>l.head?) h
   simp only[zbS,zdB,List.head?_cons,Option.some.injEq]at h1
   exact⟨r,.inl (by rw[h1])⟩
theorem zFH{env:Env}{nt:Nat}{ops:Array Oper}{x y:Oper}{s s1 s2:S}{p1 p2:List Prop}(hap:Oper.apart ops y x=true)(hy:zgF y.op=true)(hx:zaW x.op=true)(hyg:y.guard=none)
 (hng:(zA s x).all noGd=true)
 (hsep:zD0 (zA s y) (zA s x) x.dst=true) (h1:yh P env nt ops y s=some (s1,p1)) (h2:yh P env nt ops x s1=some (s2,p2)):
 ∃ s1',yh P env nt ops x s=some (s1',p2)/\yh P env nt ops y s1'=some (s2,p1):=by
 obtain⟨a1,a2,a3⟩:=zaj hap
 have ey:zah y.op=false:=by cases hop:y.op <;> rw[hop]at hy <;> first|rfl|cases hy
 have hm:zc2 x.op=true:=by unfold zc2;rw[hx,Bool.or_true]
 have ex:zah x.op=true:=zbL hm
 rw[zP ey]at h1
 obtain⟨ry,hry,he⟩:=map_some h1
 cases he
 rw[zL ex]at h2
 obtain⟨hv,e1,e2,_⟩:=za3 h2
 have hs:=e2 s.sl (yY a1 s.sl ry.v).symm (yz a1 s.sl ry.v).symm
 refine⟨{ s2 with sl:=zX s.sl x.dst hv },by rw[zL ex];exact hs,?_⟩
 rw[zP ey]
 obtain⟨_,d,hd,_,_,hcase⟩:=zb5 hm hs
 unfold zD0 at hsep
 rw[hd]at hsep
 dsimp only at hsep
 rw[Bool.and_eq_true]at hsep
 obtain⟨hoff,hold⟩:=hsep
 have hmem:evV P env s2.ob y.op (zA s y)=evV P env s.ob y.op (zA s y):=by
  rcases hcase with⟨hb,_⟩|⟨as,ts,t,tx,u,v,r,hop,_,_,_,hxs,hr,hs3,_⟩
  .exfalso
   unfold zaW at hx
   split at hx
   .rename_i hop;rw[hop]at hb;cases hb
   .cases hx
  .have hob:s2.ob=upd (zba s.ob r.2.1) d (some r.1):=congrArg S.ob hs3
   rw[hob,zj6 hy hoff]
   cases ho:r.2.1 with
   | none=>rfl
   | some id=>
    obtain⟨hu,_⟩:=zet hr ho
    have hxs':(zbS none (zA s x)).1=[u,v]:=by
     rw[<-hxs]
     rw[hop];rfl
    obtain⟨q,hq|⟨c,hq⟩⟩:=zvq hxs' hu
    .rw [hq]at hold
     exact zj6 (P:=P) (ob:=s.ob) (o:=none) hy hold
    .rw [hq]at hng;cases hng
 have:yv P env nt ops y (zX s.sl x.dst hv) s2.ob=some ry:=by
  rw[zbn (P:=P) a3,<-hry]
  have hg:zD ops s.sl y=some none:=by unfold zD;rw[hyg]
  have hst:zy none y.op (y.op.operands.toList.map (aev s.sl))=(zA s y,[]):=by
   have:zy none y.op (zA s y)=zbS none (zA s y):=by
    cases hop:y.op <;> rw[hop]at hy <;> first|rfl|cases hy
   exact this.trans (zie hoff)
  unfold yv
  rw[hg]
  cases yu nt y.dst with
  | false=>rfl
  | true=>
   dsimp only
   rw[hst]
   dsimp only
   rw[hmem]
 show(yv P env nt ops y (zX s.sl x.dst hv) s2.ob).map _=_
 rw[this]
 simp only[Option.map_some,zcu]
 have e4:zX (zX s.sl x.dst hv) y.dst ry.v=s2.sl:=by
  rw[e1]
  show _=zX (zX s.sl y.dst ry.v) x.dst hv
  rw[zbv hv ry.v (fun d hd e=>a2 d e hd)]
 rw[e4]
def yD(σ:Nat->AV)(o:Oper):List AV:=o.op.operands.toList.map (aev σ)
def zuH(ops:Array Oper)(k:Nat)(o:Oper):Bool:=(List.range ops.size).all fun i=>Nat.blt i k||match ops[i]? with
 | some p=>(match p.dst with
  | some d=>(Oper.looksAt ops o).all fun t=>!Nat.beq t d
  | none=>true)
 | none=>true
theorem zgN{ops:Array Oper}{k:Nat}{o:Oper}(h:zuH ops k o=true){i:Nat}{p:Oper}(hk:k<=i)(hi:ops[i]?=some p){t:Nat}(ht:t ∈ Oper.looksAt ops o):p.dst≠some t:=by
 intro hd
 have h1:=List.all_eq_true.1 h i (List.mem_range.2 (Array.getElem?_eq_some_iff.1 hi).1)
 rw[hi]at h1
 dsimp only at h1
 rw[hd,Bool.or_eq_true]at h1
 rcases h1 with h1|h1
 .have:i<k:=by simpa[Nat.blt_eq]using h1
  omega
 .have h2:=List.all_eq_true.1 h1 t ht
  simp at h2
def zyW(ops:Array Oper)(σ:Nat->AV)(y x:Nat)(oy ox:Oper):Bool:=
 Oper.apart ops oy ox&&(zgF oy.op&&((zjU ox.op||zaW ox.op)&&(oy.guard.isNone&&(zDZ ox (yD σ oy) (yD σ ox)&&(zuH ops y oy&&zuH ops x ox)))))
def rsG(ops:Array Oper)(rs:List Nat):Bool:=rs.all fun i=>match ops[i]? with
 | some o=>o.guard.isSome&&zU o.op
 | none=>true
theorem zxQ{ops:Array Oper}{rs:List Nat}(h:rsG ops rs=true){i:Nat}{o:Oper}(hi:yX i rs=true)(ho:ops[i]?=some o):o.guard.isSome=true/\zU o.op=true:=by
 have h1:=List.all_eq_true.1 h i (zaT.1 hi)
 rw[ho]at h1
 simpa using h1
def zvY(ops:Array Oper)(rs:List Nat)(σ:Nat->AV)(y x:Nat)(oy ox:Oper):Bool:=
 Oper.apart ops oy ox&&(rsG ops rs&&(yX y rs&&(!yX x rs&&(zgF ox.op&&(oy.guard.isSome&&(zU oy.op&&((match oy.dst with
  | some d=>(yD σ ox).all (offB d)
  | none=>false)&&zuH ops y ox)))))))
theorem zky{g:Gd}{id:Nat}:∀ {ys:List AV},ys.all (offB id)=true->zbS g ys=(ys,[])
 | [],_=>rfl
 | y::r,h=>by
  rw[List.all_cons,Bool.and_eq_true]at h
  have h2:=zky (g:=g) h.2
  cases y <;> first|(simp only[offB,Bool.false_eq_true]at h;exact absurd h.1 (by decide))|(simp only[zbS,zdB,h2];rfl)
theorem zlZ{env:Env}{envR:zaK}{nt:Nat}{ops:Array Oper}{rs:List Nat}{y:Nat}{o:Oper}{s s1:S}{p:List Prop}(hy:yX y rs=true)(hg:o.guard.isSome=true)(hb:zU o.op=true)
 (h:zw P env envR nt ops rs y o s=some (s1,p)):
 ∃ c d ob ok,zD ops s.sl o=some (some c)/\o.dst=some d/\yu nt (some d)=true/\s.us d=false/\s.ob d=none/\evB P o.op (zy (some c) o.op (yD s.sl o)).1=some (ob,ok)/\s1=yq s d ob/\
  p=(zy (some c) o.op (yD s.sl o)).2++((c=true)::oks none ok):=by
 unfold zw at h
 rw[hy]at h
 dsimp only at h
 cases hgd:o.guard with
 | none=>rw[hgd]at hg;cases hg
 | some g=>
  rw[hgd]at h
  dsimp only at h
  split at h
  .rename_i c hgo hdk
   obtain⟨⟨s2,ok⟩,hE,he⟩:=map_some h
   cases he
   unfold evE at hE
   split at hE
   .rename_i hop;rw[hop]at hb;cases hb
   .rename_i hop;rw[hop]at hb;cases hb
   .rename_i as ts hop;rw[hop]at hb;cases hb
   .split at hE
    .rename_i ob ok' d hB hdst
     split at hE
     .rename_i hu ho
      cases hE
      exact⟨c,d,ob,ok,hgo,hdst,by rw[<-hdst];exact hdk,hu,ho,hB,rfl,rfl⟩
     .cases hE
    .cases hE
  .cases h
theorem zts{env:Env}{envR:zaK}{nt:Nat}{ops:Array Oper}{rs:List Nat}{y:Nat}{o:Oper}{s:S}{c:Bool}{d:Nat}{ob:AObj}{ok:Option Prop}(hy:yX y rs=true)(hg:o.guard.isSome=true)(hb:zU o.op=true)
 (h1:zD ops s.sl o=some (some c)) (h2:o.dst=some d) (h3:yu nt (some d)=true) (h4:s.us d=false) (h5:s.ob d=none) (h6:evB P o.op (zy (some c) o.op (yD s.sl o)).1=some (ob,ok)):
 zw P env envR nt ops rs y o s=some (yq s d ob,(zy (some c) o.op (yD s.sl o)).2++((c=true)::oks none ok)):=by
 have hE:evE P s o (zy (some c) o.op (yD s.sl o)).1=some (yq s d ob,ok):=by
  unfold evE
  split
  .rename_i hop;rw[hop]at hb;cases hb
  .rename_i hop;rw[hop]at hb;cases hb
  .rename_i as ts hop;rw[hop]at hb;cases hb
  .rw [h6,h2]
   dsimp only
   rw[h4,h5]
 unfold zw
 rw[hy]
 dsimp only
 cases hgd:o.guard with
 | none=>rw[hgd]at hg;cases hg
 | some g=>
  dsimp only
  rw[h1,h2,h3]
  dsimp only
  unfold yD at hE
  rw[hE]
  rfl
theorem zFF{env:Env}{envR:zaK}{rs:List Nat}{nt:Nat}{ops:Array Oper}{x y:Nat}{ox oy:Oper}{s s1 s2:S}{p1 p2:List Prop}(hap:Oper.apart ops oy ox=true)(hy:yX y rs=true)(hx:yX x rs=false)(hr:zgF ox.op=true)
 (hg:oy.guard.isSome=true) (hb:zU oy.op=true) (hoff:∀ d,oy.dst=some d->(yD s.sl ox).all (offB d)=true)
 (h1:zw P env envR nt ops rs y oy s=some (s1,p1)) (h2:zw P env envR nt ops rs x ox s1=some (s2,p2)):
 ∃ s1',zw P env envR nt ops rs x ox s=some (s1',p2)/\zw P env envR nt ops rs y oy s1'=some (s2,p1):=by
 obtain⟨a1,a2,a3⟩:=zaj hap
 obtain⟨c,d,ob,ok,g1,g2,g3,g4,g5,g6,rfl,rfl⟩:=zlZ hy hg hb h1
 have he:zah ox.op=false:=by cases hop:ox.op <;> rw[hop]at hr <;> first|rfl|cases hr
 have hxA:∀ s,zw P env envR nt ops rs x ox s=yh P env nt ops ox s:=fun s=>by unfold zw;rw[hx]
 rw[hxA,zP he]at h2
 obtain⟨rx,hrx,hq⟩:=map_some h2
 cases hq
 have ho:=hoff d g2
 have hv:yv P env nt ops ox s.sl s.ob=some rx:=by
  rw[<-hrx]
  show _=yv P env nt ops ox (upd s.sl d _) (upd s.ob d (some ob))
  rw[zmJ (P:=P) (a1 d g2)]
  unfold yv
  cases hgo:zD ops s.sl ox with
  | none=>rfl
  | some g=>
   cases yu nt ox.dst with
   | false=>rfl
   | true=>
    dsimp only
    have hst:zy g ox.op (ox.op.operands.toList.map (aev s.sl))=(yD s.sl ox,[]):=by
     have:zy g ox.op (yD s.sl ox)=zbS g (yD s.sl ox):=by
      cases hop:ox.op <;> rw[hop]at hr <;> first|rfl|cases hr
     exact this.trans (zky ho)
    rw[hst]
    dsimp only
    rw[zj6 hr ho]
 refine⟨zcu s ox.dst rx.v,by rw[hxA,zP he,hv];rfl,?_⟩
 have e1:yD (zcu s ox.dst rx.v).sl oy=yD s.sl oy:=yz a3 s.sl rx.v
 have e2:zD ops (zcu s ox.dst rx.v).sl oy=zD ops s.sl oy:=yY a3 s.sl rx.v
 have h:=zts (P:=P) (env:=env) (envR:=envR) (nt:=nt) (ops:=ops) (s:=zcu s ox.dst rx.v) (ob:=ob) (ok:=ok) (c:=c) hy hg hb (by rw[e2];exact g1) g2 g3 g4 g5 (by rw[e1];exact g6)
 rw[h,e1]
 have e3:yq (zcu s ox.dst rx.v) d ob=zcu (yq s d ob) ox.dst rx.v:=by
  have e4:upd (zX s.sl ox.dst rx.v) d (ob.handle d)=zX (upd s.sl d (ob.handle d)) ox.dst rx.v:=zbv (σ:=s.sl) (d:=ox.dst) (d':=some d) rx.v (ob.handle d) fun q hq e=>a2 d g2 (by rw[hq,e])
  show({ sl:=upd (zX s.sl ox.dst rx.v) d (ob.handle d),ob:=upd s.ob d (some ob),us:=upd s.us d true }:S)={ sl:=zX (upd s.sl d (ob.handle d)) ox.dst rx.v,ob:=upd s.ob d (some ob),us:=upd s.us d true }
  rw[e4]
 rw[e3]
def zln(ops:Array Oper)(rs:List Nat)(σ:Nat->AV)(y x:Nat)(oy ox:Oper):Bool:=zdF ops rs y x oy ox||((rs.isEmpty&&zyW ops σ y x oy ox)||zvY ops rs σ y x oy ox)
theorem zlm{ops:Array Oper}{rs:List Nat}{σ:Nat->AV}{y x:Nat}{oy ox:Oper}(h:zln ops rs σ y x oy ox=true):Oper.apart ops oy ox=true:=by
 unfold zln at h
 rw[Bool.or_eq_true,Bool.or_eq_true]at h
 rcases h with h|h|h
 .exact (zdu h).2.2.2
 .unfold zyW at h
  simp only[Bool.and_eq_true]at h
  exact h.2.1
 .unfold zvY at h
  rw[Bool.and_eq_true]at h
  exact h.1
theorem zyV{ops:Array Oper}{rs:List Nat}{σ:Nat->AV}{y x:Nat}{oy ox:Oper}(h:zln ops rs σ y x oy ox=true):yX y rs=false\/(yX y rs=true/\oy.guard.isSome=true/\zU oy.op=true):=by
 unfold zln at h
 rw[Bool.or_eq_true,Bool.or_eq_true]at h
 rcases h with h|h|h
 .exact .inl (zdu h).1
 .simp only[Bool.and_eq_true]at h
  cases rs with
  | nil=>exact .inl rfl
  | cons _ _=>cases h.1
 .unfold zvY at h
  simp only[Bool.and_eq_true]at h
  obtain⟨_,_,h1,_,_,h2,h3,_⟩:=h
  exact .inr ⟨h1,h2,h3⟩
theorem zAf{env:Env}{nt:Nat}{ops:Array Oper}{o:Oper}{s s1:S}{p:List Prop}(h:yh P env nt ops o s=some (s1,p)):∃ v,s1.sl=zX s.sl o.dst v:=by
 cases he:zah o.op with
 | false=>
  rw[zP he]at h
  obtain⟨r,_,h2⟩:=map_some h
  cases h2
  exact⟨r.v,rfl⟩
 | true=>
  rw[zL he]at h
  obtain⟨hv,e1,_⟩:=za3 h
  exact⟨hv,e1⟩
theorem zwE{env:Env}{envR:zaK}{nt:Nat}{ops:Array Oper}{rs:List Nat}(hrs:rsG ops rs=true){i:Nat}{o:Oper}(ho:ops[i]?=some o){s s1:S}{p:List Prop}(h:zw P env envR nt ops rs i o s=some (s1,p)):∃ v,s1.sl=zX s.sl o.dst v:=by
 cases hi:yX i rs with
 | false=>
  unfold zw at h
  rw[hi]at h
  exact zAf h
 | true=>
  obtain⟨h1,h2⟩:=zxQ hrs hi ho
  obtain⟨c,d,ob,ok,_,g2,_,_,_,_,rfl,_⟩:=zlZ hi h1 h2 h
  exact⟨ob.handle d,by rw[g2];rfl⟩
theorem zkc{env:Env}{envR:zaK}{nt:Nat}{ops:Array Oper}{rs:List Nat}(hrs:rsG ops rs=true){t:Nat}:∀ (l:List Nat) (s s':S) (ps:List Prop),zV P env envR nt ops rs l s=some (s',ps)->(∀ i ∈ l,∀ o,ops[i]?=some o->o.dst≠some t)->s'.sl t=s.sl t
 | [],s,s',ps,h,_=>by
  simp only[zV]at h
  cases h;rfl
 | i::l,s,s',ps,h,hd=>by
  simp only[zV]at h
  cases hi:ops[i]? with
  | none=>rw[hi]at h;cases h
  | some o=>
   rw[hi]at h
   dsimp only at h
   cases h1:zw P env envR nt ops rs i o s with
   | none=>rw[h1]at h;cases h
   | some q=>
    obtain⟨s1,p1⟩:=q
    rw[h1]at h
    dsimp only at h
    cases h2:zV P env envR nt ops rs l s1 with
    | none=>rw[h2]at h;cases h
    | some q=>
     obtain⟨s2,p2⟩:=q
     rw[h2]at h;cases h
     obtain⟨v,hv⟩:=zwE hrs hi h1
     rw[zkc hrs l s1 s' p2 h2 fun j hj=>hd j (List.mem_cons_of_mem _ hj),hv]
     have hn:=hd i (List.mem_cons_self ..) o hi
     cases hdst:o.dst with
     | none=>rfl
     | some d=>exact zh _ _ fun e=>hn (by rw[hdst,e])
theorem zgW{ops:Array Oper}{o:Oper}{σ σ':Nat->AV}(h:∀ t ∈ Oper.looksAt ops o,σ t=σ' t):yD σ o=yD σ' o:=by
 refine List.map_congr_left fun x hx=>?_
 cases x with
 | tmp t=>exact h t (List.mem_append_left _ (List.mem_filterMap.2 ⟨.tmp t,hx,rfl⟩))
 | _=>rfl
theorem zbF.stepV{env:Env}{envR:zaK}{rs:List Nat}{nt:Nat}{ops:Array Oper}{x y:Nat}{ox oy:Oper}{σ:Nat->AV}{s s1:S}{p1:List Prop}(hi:zln ops rs σ y x oy ox=true)
 (h1:zw P env envR nt ops rs y oy s=some (s1,p1)) (hsem:zbF s ox):zbF s1 ox:=by
 have hap:=zlm hi
 rcases zyV hi with hy|⟨hy,hg,hb⟩
 .unfold zw at h1
  rw[hy]at h1
  exact zbF.step hap h1 hsem
 .obtain ⟨c,d,ob,ok,_,g2,_,_,_,_,rfl,_⟩:=zlZ hy hg hb h1
  obtain⟨a1,_,_⟩:=zaj hap
  have ha:zA (yq s d ob) ox=zA s ox:=yz (dst:=some d) (fun q hq=>by cases hq;exact a1 d g2) s.sl _
  refine⟨fun q hq=>?_,fun hp=>?_⟩
  .have hq:upd s.us d true q=false:=hq
   by_cases e:q=d
   .subst e;rw[zc]at hq;cases hq
   .rw [zh _ _ e]at hq
    show upd s.ob d (some ob) q=none
    rw[zh _ _ e];exact hsem.free q hq
  .rw [ha]at hp ⊢
   obtain⟨γ,M,vs,h3,h4⟩:=hsem.rel hp
   refine⟨γ,M,vs,h3,fun q hq=>?_⟩
   have hq:upd s.us d true q=false:=hq
   by_cases e:q=d
   .subst e;rw[zc]at hq;cases hq
   .rw [zh _ _ e]at hq;exact h4 q hq
theorem zFD{env:Env}{envR:zaK}{rs:List Nat}{nt:Nat}{ops:Array Oper}{x y:Nat}{ox oy:Oper}{σ:Nat->AV}{s s1 s2:S}{p1 p2:List Prop}(hi:zln ops rs σ y x oy ox=true)
 (hσ:rs=[]->zyW ops σ y x oy ox=true->zDZ ox (zA s oy) (zA s ox)=true) (hγ:zvY ops rs σ y x oy ox=true->∀ d,oy.dst=some d->(yD s.sl ox).all (offB d)=true) (hsem:zbF s ox)
 (h1:zw P env envR nt ops rs y oy s=some (s1,p1)) (h2:zw P env envR nt ops rs x ox s1=some (s2,p2)) (hp:All p2):
 ∃ s1',zw P env envR nt ops rs x ox s=some (s1',p2)/\zw P env envR nt ops rs y oy s1'=some (s2,p1):=by
 unfold zln at hi
 rw[Bool.or_eq_true,Bool.or_eq_true]at hi
 rcases hi with hi|hi|hi
 .exact zxz hi hsem h1 h2 hp
 .rw [Bool.and_eq_true]at hi
  obtain⟨h0,hi⟩:=hi
  cases rs with
  | cons _ _=>cases h0
  | nil=>
   have hs:=hσ rfl hi
   unfold zyW at hi
   simp only[Bool.and_eq_true,Option.isNone_iff_eq_none]at hi
   obtain⟨k1,k2,k3,k4,_⟩:=hi
   unfold zDZ at hs
   cases hst:zjU ox.op with
   | true=>rw[hst]at hs;exact zFE k1 k2 hst k4 hs h1 h2
   | false=>
    rw[hst]at hs
    dsimp only at hs
    rw[Bool.and_eq_true,Bool.and_eq_true]at hs
    exact zFH k1 k2 hs.1 k4 hs.2.1 hs.2.2 h1 h2
 .have hs:=hγ hi
  unfold zvY at hi
  simp only[Bool.and_eq_true,Bool.not_eq_true']at hi
  obtain⟨k1,_,k2,k3,k4,k5,k6,_⟩:=hi
  exact zFF k1 k2 k3 k4 k5 k6 hs h1 h2
theorem zu1{env:Env}{envR:zaK}{rs:List Nat}{nt:Nat}{ops:Array Oper}{x:Nat}{ox:Oper}(hx:ops[x]?=some ox):∀ (l1 l2:List Nat) (s s':S) (ps:List Prop),(l1++x::l2).Pairwise (·<·)->
 (∀ y ∈ l1,∀ oy,ops[y]?=some oy->zln ops rs s'.sl y x oy ox=true)->zbF s ox->All ps->zV P env envR nt ops rs (l1++x::l2) s=some (s',ps)->
 ∃ s1 p1 p2,zw P env envR nt ops rs x ox s=some (s1,p1)/\zV P env envR nt ops rs (l1++l2) s1=some (s',p2)/\(All p1/\All p2)
 | [],l2,s,s',ps,_,_,_,hps,h=>by
  simp only[List.nil_append,zV,hx]at h ⊢
  cases h1:zw P env envR nt ops rs x ox s with
  | none=>rw[h1]at h;cases h
  | some q=>
   obtain⟨s1,p1⟩:=q
   rw[h1]at h
   dsimp only at h
   cases h2:zV P env envR nt ops rs l2 s1 with
   | none=>rw[h2]at h;cases h
   | some q=>
    obtain⟨s2,p2⟩:=q
    rw[h2]at h;cases h
    exact⟨s1,p1,p2,rfl,h2,All.append hps⟩
 | y::l1,l2,s,s',ps,hsort,hi,hsem,hps,h=>by
  have hfull:=h
  simp only[List.cons_append,zV]at h
  cases hy:ops[y]? with
  | none=>rw[hy]at h;cases h
  | some oy=>
   rw[hy]at h
   dsimp only at h
   cases h1:zw P env envR nt ops rs y oy s with
   | none=>rw[h1]at h;cases h
   | some q=>
    obtain⟨s1,p1⟩:=q
    rw[h1]at h
    dsimp only at h
    cases h2:zV P env envR nt ops rs (l1++x::l2) s1 with
    | none=>rw[h2]at h;cases h
    | some q=>
     obtain⟨s2,p2⟩:=q
     rw[h2]at h;cases h
     obtain⟨u1,u2⟩:=All.append hps
     have hind:=hi y (List.mem_cons_self ..) oy hy
     have hsem1:=zbF.stepV hind h1 hsem
     rw[List.cons_append]at hsort hfull
     obtain⟨hlt,hsort2⟩:=List.pairwise_cons.1 hsort
     obtain⟨t1,q1,q2,b1,b2,b3,b4⟩:=zu1 hx l1 l2 s1 s' p2 hsort2 (fun y' hy'=>hi y' (List.mem_cons_of_mem _ hy')) hsem1 u2 h2
     obtain⟨t0,c1,c2⟩:=zFD hind (fun hrs hs=>by
      subst hrs
      unfold zyW at hs
      simp only[Bool.and_eq_true]at hs
      obtain⟨_,_,_,_,g1,g2,g3⟩:=hs
      have ey:yD s'.sl oy=yD s.sl oy:=zgW (ops:=ops) fun t ht=>zkc rfl _ s s' _ hfull fun i hi o ho=>by
       refine zgN g2 ?_ ho ht
       rcases List.mem_cons.1 hi with hi|hi
       .omega
       .have:=hlt i hi;omega
      have ex:yD s'.sl ox=yD s.sl ox:=zgW (ops:=ops) fun t ht=>zkc rfl _ s s' _ hfull fun i hi2 o ho=>by
       have hap:i ∈ y::l1->o.dst≠some t:=fun hm hd=>by
        have h3:=zlm (hi i hm o ho)
        exact(zaj h3).1 t hd ht
       rcases List.mem_cons.1 hi2 with hi3|hi3
       .exact hap (by rw[hi3];exact List.mem_cons_self ..)
       .rcases List.mem_append.1 hi3 with hi4|hi4
        .exact hap (List.mem_cons_of_mem _ hi4)
        .refine zgN g3 ?_ ho ht
         rcases List.mem_cons.1 hi4 with hi5|hi5
         .omega
         .have:=(List.pairwise_cons.1 (List.pairwise_append.1 hsort2).2.1).1 i hi5;omega
      rw[ey,ex]at g1
      exact g1) (fun hG d hd=>by
      unfold zvY at hG
      simp only[Bool.and_eq_true]at hG
      obtain⟨_,k0,_,_,_,_,_,k7,k8⟩:=hG
      have ex:yD s'.sl ox=yD s.sl ox:=zgW (ops:=ops) fun t ht=>zkc k0 _ s s' _ hfull fun i hi2 o ho=>by
       refine zgN k8 ?_ ho ht
       rcases List.mem_cons.1 hi2 with hi3|hi3
       .omega
       .have:=hlt i hi3;omega
      rw[hd,ex]at k7
      exact k7) hsem h1 b1 b3
     refine⟨t0,q1,p1++q2,c1,?_,b3,All.mk u1 b4⟩
     simp only[List.cons_append,zV,hy,c2,b2]
def zhP(ops:Array Oper)(rs:List Nat)(σ:Nat->AV):Bool:=
 (List.range ops.size).all fun x=>(List.range x).all fun y=>
  ((zhn ops.toList []).getD x 0).testBit y||(match ops[y]?,ops[x]? with
   | some oy,some ox=>zln ops rs σ y x oy ox
   | _,_=>false)
theorem zo6{ops:Array Oper}{rs:List Nat}{σ:Nat->AV}(h:zhP ops rs σ=true){x y:Nat}{ox oy:Oper}(hxy:y<x)(hx:ops[x]?=some ox)(hy:ops[y]?=some oy)
 {listed:Nat->Bool} (hc:Closed ops listed) (hd:zC7 ops listed x) (hny:listed y=false):zln ops rs σ y x oy ox=true:=by
 unfold zhP at h
 have hlt:x<ops.size:=(Array.getElem?_eq_some_iff.1 hx).1
 have h1:=List.all_eq_true.1 h x (List.mem_range.2 hlt)
 have h2:=List.all_eq_true.1 h1 y (List.mem_range.2 hxy)
 rw[hx,hy]at h2
 rw[Bool.or_eq_true]at h2
 rcases h2 with h2|h2
 .exfalso
  cases hm:(zhn ops.toList [])[x]? with
  | none=>rw[List.getD_eq_getElem?_getD,hm]at h2;simp at h2
  | some m=>
   rw[List.getD_eq_getElem?_getD,hm]at h2
   have:=zhm (ops:=ops) ops.toList [] (fun i o ho=>by simpa using ho) (fun x m hx=>by simp at hx) x m hm listed hc hd y h2
   rw[hny]at this;cases this
 .exact h2
theorem zwH{env:Env}(henv:yQ P env){envR:zaK}(henvR:zal P envR){rs:List Nat}{ops:Array Oper}{Q:Exit->Act->World->Prop}{s':S}(hk:zhP ops rs s'.sl=true)
 (hq:∀ a' w',St C s' a' w'->Q .normal a' w'):∀ (fuel:Nat) (listed:Array Bool) (l:List Nat) (s:S) (ps:List Prop) (a:Act) (w:World),
 listed.size=ops.size->(∀ i,i ∈ l↔i<ops.size/\listed.getD i true=false)->l.Pairwise (·<·)->Closed ops (lsF listed)->l.length<=fuel->
 zV P env envR C.nt ops rs l s=some (s',ps)->All ps->St C s a w->(∀ (x:Nat) (o:Oper),ops[x]?=some o->∀ e ∈ o.after,Region.binds .any e=true->e.on<x)->wpAnyIn (FW C.rd) 0 P .any ops Q fuel listed a w:=by
 intro fuel
 induction fuel with
 | zero=>
  intro listed l s ps a w hsz hl hsort hcl hle h hps hs hbk
  have:l=[]:=List.length_eq_zero_iff.1 (Nat.le_zero.1 hle)
  subst this
  cases h
  refine⟨?_,hq a w hs⟩
  refine List.eq_nil_iff_forall_not_mem.2 fun j hj=>?_
  obtain⟨h0,o,ho,_⟩:=mem_ready.1 hj
  exact absurd ((hl j).2 ⟨(Array.getElem?_eq_some_iff.1 ho).1,h0⟩) (by simp)
 | succ fuel ih=>
  intro listed l s ps a w hsz hl hsort hcl hle h hps hs hbk
  refine⟨fun hr=>?_,fun x hx=>?_⟩
  .cases l with
   | nil=>cases h;exact hq a w hs
   | cons x r=>
    exfalso
    have hxm:=(hl x).1 (List.mem_cons_self ..)
    have hox:ops[x]?=some ops[x]:=Array.getElem?_eq_getElem hxm.1
    have:x ∈ Region.ready .any ops listed:=by
     refine mem_ready.2 ⟨hxm.2,_,hox,fun e he hbi=>?_⟩
     have hlt:=hbk x _ hox e he hbi
     cases hle':listed.getD e.on false with
     | true=>rfl
     | false=>
      exfalso
      have he2:e.on<ops.size:=Nat.lt_trans hlt hxm.1
      have hmem:e.on ∈ x::r:=by
       refine(hl e.on).2 ⟨he2,?_⟩
       have hlt3:e.on<listed.size:=by rw[hsz];exact he2
       simpa[Array.getD,hlt3]using hle'
      rcases List.mem_cons.1 hmem with h3|h3
      .omega
      .have:=List.rel_of_pairwise_cons hsort h3
       omega
    rw[hr]at this;cases this
  .obtain ⟨h0,ox,hox,hall⟩:=mem_ready.1 hx
   have hlt:=(Array.getElem?_eq_some_iff.1 hox).1
   obtain⟨l1,l2,rfl,hl1⟩:=zgk hsort ((hl x).2 ⟨hlt,h0⟩)
   have hind:∀ y ∈ l1,∀ oy,ops[y]?=some oy->zln ops rs s'.sl y x oy ox=true:=fun y hy oy hoy=>by
    refine zo6 hk (hl1 y hy) hox hoy hcl ?_ ?_
    .intro o ho e he hb
     rw[hox]at ho;cases ho
     exact hall e he hb
    .have:=((hl y).1 (List.mem_append_left _ hy)).2
     have hy2:y<listed.size:=by rw[hsz];exact((hl y).1 (List.mem_append_left _ hy)).1
     simp only[lsF]
     simpa[Array.getD,hy2]using this
   obtain⟨s1,p1,p2,b1,b2,hp1,hp2⟩:=zu1 hox l1 l2 s s' ps hsort hind (hs.sem ox) hps h
   have step:=zbQ henv henvR b1 hp1 hs (next:=wpAnyIn (FW C.rd) 0 P .any ops Q fuel (listed.setIfInBounds x true)) (Q:=Q) fun a' w' hs'=>by
    have hpw:=List.pairwise_append.1 hsort
    refine ih (listed.setIfInBounds x true) (l1++l2) s1 p2 a' w' (by simpa using hsz) (fun i=>?_) ?_ ?_ ?_ b2 hp2 hs' hbk
    .have hi:=hl i
     by_cases hix:x=i
     .subst hix
      have hxs:x<listed.size:=by rw[hsz];exact hlt
      constructor
      .intro hm
       exfalso
       rcases List.mem_append.1 hm with hm|hm
       .exact absurd (hl1 x hm) (by omega)
       .have:=List.rel_of_pairwise_cons hpw.2.1 hm
        omega
      .rintro ⟨_,hh⟩
       simp[hxs]at hh
     .rw [getD_set_ne true hix,<-hi]
      simp only[List.mem_append,List.mem_cons]
      constructor
      .rintro (h|h)
       .exact .inl h
       .exact .inr (.inr h)
      .rintro (h|h|h)
       .exact .inl h
       .exact absurd h.symm hix
       .exact .inr h
    .exact List.Pairwise.sublist (List.Sublist.append (List.Sublist.refl _) (List.sublist_cons_self ..)) hsort
    .intro y hy o ho e he hb
     simp only[lsF]at hy ⊢
     by_cases hyx:x=y
     .subst hyx
      rw[hox]at ho;cases ho
      exact getD_set_true (hall e he hb)
     .rw [getD_set_ne false hyx]at hy
      exact getD_set_true (hcl y hy o ho e he hb)
    .simp only[List.length_append,List.length_cons]at hle ⊢
     omega
   unfold wpOpIn
   rw[hox]
   dsimp only
   split
   .rename_i hw;rw[if_pos hw]at step;exact step
   .rename_i hw;rw[if_neg hw]at step;exact⟨fun _ _=>trivial,step⟩
theorem ztz{env:Env}(henv:yQ P env){envR:zaK}(henvR:zal P envR){rs:List Nat}(hm:P.follows .mixedOrders=true){id:Nat}{ops:Array Oper}{Q:Exit->S->Prop}{ps:List Prop}
 (hk:zhP ops rs s'.sl=true) (hb:zeA ops=true)
 (h:zV P env envR C.nt ops rs (List.range ops.size) s=some (s',ps)) (hp:All ps) (hq:Q .normal s'):T P C (.region id ops true) s Q:=by
 intro a w hs
 refine wpIn_region_any hm ?_
 refine zwH henv henvR hk (fun a' w' hs'=>⟨s',hq,hs'⟩) ops.size _ (List.range ops.size) s ps a _ (by simp) (fun i=>?_) List.pairwise_lt_range ?_ (by simp) h hp hs.drew (zez hb)
 .simp only[List.mem_range]
  constructor
  .intro hi;exact⟨hi,by simp[hi]⟩
  .exact fun h=>h.1
 .intro x hx
  exfalso
  simp only[lsF]at hx
  rw[Array.getD_eq_getD_getElem?,Array.getElem?_replicate]at hx
  split at hx <;> simp at hx
end Go.Am
/-! An object that nobody writes any more becomes plain data: its cells are held as memory, what points to it as a box. -/
namespace Go.Am
open Go Go.RowKit
variable {P:Program}{C:Ctx}{s s':S}{a a':Act}{w w':World}{γ:Nat->Option G}{M M':Mem}
def AV.pv:AV->PV
 | .p x=>x
 | _=>.bad
def zyU:AV->Bool
 | .p _=>true
 | _=>false
def zsN(id:Nat)(cs:List AV):AV->AV
 | .ref j off=>match Nat.beq j id&&Nat.ble off cs.length with
  | true=>.p (.box (cs.length-off) (fun q=>(cs.getD (off+q) .any).pv))
  | false=>.ref j off
 | x=>x
def frzV(id:Nat)(cs:List AV):AV->AV
 | .clo fn fs xs=>.clo fn (fs.map (zsN id cs)) (xs.map (zsN id cs))
 | x=>zsN id cs x
def zzf(id:Nat)(y:AV):AV->AV
 | .arr j=>match Nat.beq j id with
  | true=>y
  | false=>.arr j
 | x=>x
def zEL(s:S)(id:Nat):Option S:=match s.ob id with
 | some (.larr e true k R)=>some { sl:=fun t=>zzf id (.p (.list k R)) (s.sl t),ob:=upd s.ob id (some (.larr e false k R)),us:=s.us }
 | some (.larr _ false k R)=>some { sl:=fun t=>zzf id (.p (.list k R)) (s.sl t),ob:=s.ob,us:=s.us }
 | some (.cells cs)=>match cs.all zyU with
  | true=>some { sl:=fun t=>frzV id cs (s.sl t),ob:=upd s.ob id none,us:=s.us }
  | false=>none
 | _=>none
def zsM(id:Nat)(y:AV):AV->AV
 | .ref j 0=>match Nat.beq j id with
  | true=>y
  | false=>.ref j 0
 | x=>x
def frzX(id:Nat)(y:AV):AV->AV
 | .clo fn fs xs=>.clo fn (fs.map (zsM id y)) (xs.map (zsM id y))
 | x=>zsM id y x
def zEK(P:Program)(s:S)(id:Nat):Nat->Option S
 | 0=>zEL s id
 | t+1=>match s.ob id,zq3 P 9 t with
  | some (.cells cs),some c=>match cs.all zyU,zeF c (cs.map AV.pv)with
   | true,some x=>some { sl:=fun i=>frzX id (.p (.box (wid c) (cell c x))) (s.sl i),ob:=upd s.ob id none,us:=s.us }
   | _,_=>none
  | _,_=>none
def zB9(P:Program)(s:S):List Nat->Option S
 | i::t::r=>match zEK P s i t with
  | some s1=>zB9 P s1 r
  | none=>none
 | _=>some s
theorem ztB{id:Nat}{o:AObj}(hM:MLe M M')(hb:∀ g,γ id=some g->∀ b,g.blk=some b->∀ q,M' b q=M b q)(h:OM γ M w id o):OM γ M' w id o:=by
 cases o with
 | cells cs=>
  obtain⟨b,vs,e,h1,h2,h3,h4,h5⟩:=h
  exact⟨b,vs,e,h1,h2,h3,fun j hj=>⟨((h4 j hj).1).mono (fun _ _ hx=>hx) hM,(h4 j hj).2⟩,fun q=>by rw[hb _ h1 b rfl q];exact h5 q⟩
 | barr e mu l=>
  obtain⟨x,cap,h1,h2⟩:=h
  refine⟨x,cap,h1,h2.own,h2.one,h2.len,fun g hg=>?_⟩
  have:=h2.mem g hg
  have hq:=hb _ h1 g hg
  cases mu with
  | true=>intro q;rw[hq q];exact this q
  | false=>intro q;rw[hq q];exact this q
 | larr e mu k R=>
  obtain⟨x,cap,vs,h1,h0,h2⟩:=h
  refine⟨x,cap,vs,h1,fun i j hi hj=>?_,h2.own,h2.one,h2.len,fun g hg=>?_⟩
  .obtain ⟨v,hv,hr⟩:=h0 i j hi hj
   exact⟨v,hv,hr.mono hM⟩
  .have:=h2.mem g hg
   have hq:=hb _ h1 g hg
   cases mu with
   | true=>intro q;rw[hq q];exact this q
   | false=>intro q;rw[hq q];exact this q
 | bcv e l=>
  obtain⟨g,cur,h1,h2,h3,h4,h5,h6⟩:=h
  exact⟨g,cur,h1,h2,h3,h4,h5,fun q=>by rw[hb _ h1 g rfl q];exact h6 q⟩
 | bldr T x=>
  obtain⟨b,v0,v1,h1,h2,h3,h4,h5,h6⟩:=h
  exact⟨b,v0,v1,h1,h2,h3,h4.mono (fun _ _ hx=>hx) hM,h5,fun q=>by rw[hb _ h1 b rfl q];exact h6 q⟩
 | raw o=>
  obtain⟨b,h1,h2,h3⟩:=h
  exact⟨b,h1,h2,fun q=>by rw[hb _ h1 b rfl q];exact h3 q⟩
 | mp e l=>
  obtain⟨b,es,cl,h1,h2,h3,h4⟩:=h
  exact⟨b,es,cl,h1,h2,h3.mono hM,fun q=>by rw[hb _ h1 b rfl q];exact h4 q⟩
theorem zqL{id b:Nat}{cs:List AV}{vs:Array Value}(hγ:γ id=some (.cell b))(hM:MLe M M')(hb:∀ q,M' b q=vs[q]?)(hsz:vs.size=cs.length)
 (hcs:∀ j,j<cs.length->zF M' (cs.getD j .any).pv (vs.getD j undef)) {x:AV} {v:Value} (h:ARel γ M x v):ARel γ M' (zsN id cs x) v:=by
 have hm:ARel γ M' x v:=h.mono (fun _ _ hx=>hx) hM
 cases x with
 | ref j off=>
  simp only[zsN]
  cases hc:Nat.beq j id&&Nat.ble off cs.length with
  | false=>exact hm
  | true=>
   rw[Bool.and_eq_true]at hc
   have hj:=Nat.eq_of_beq_eq_true hc.1
   subst hj
   have ho:=Nat.le_of_ble_eq_true hc.2
   obtain⟨b',h1,rfl⟩:=h.ref_inv
   rw[hγ]at h1;cases h1
   refine .p _ _ (.box _ _ b off (fun q=>vs.getD (off+q) undef) (fun q hq=>?_) (fun q hq=>hcs _ (by omega)))
   have hlt:off+q<vs.size:=by omega
   rw[hb,Array.getElem?_eq_getElem hlt,Array.getD_eq_getD_getElem?,Array.getElem?_eq_getElem hlt];rfl
 | _=>exact hm
theorem zzc{id b:Nat}{cs:List AV}{vs:Array Value}(hγ:γ id=some (.cell b))(hM:MLe M M')(hb:∀ q,M' b q=vs[q]?)(hsz:vs.size=cs.length)
 (hcs:∀ j,j<cs.length->zF M' (cs.getD j .any).pv (vs.getD j undef)) {x:AV} {v:Value} (h:ARel γ M x v):ARel γ M' (frzV id cs x) v:=by
 cases x with
 | clo fn fs xs=>
  cases h with
  | clo _ _ _ vf vc hf hc h1 h2=>
   have key:∀ (l:List AV) (ws:Array Value),(∀ i,i<l.length->ARel γ M (l.getD i .any) (ws.getD i undef))->∀ i,i<(l.map (zsN id cs)).length->ARel γ M' ((l.map (zsN id cs)).getD i .any) (ws.getD i undef):=by
    intro l ws hl i hi
    have hi':i<l.length:=by simpa using hi
    have:=zqL hγ hM hb hsz hcs (hl i hi')
    rw[List.getD_eq_getElem?_getD,List.getElem?_eq_getElem hi']at this
    rw[List.getD_eq_getElem?_getD,List.getElem?_map,List.getElem?_eq_getElem hi']
    exact this
   exact .clo fn _ _ vf vc (by simpa using hf) (by simpa using hc) (key fs vf h1) (key xs vc h2)
 | _=>exact zqL hγ hM hb hsz hcs h
theorem zqK{id k:Nat}{e:TypeId}{R:Rows}(ho:s.ob id=some (.larr e false k R)):Sub C s { sl:=fun t=>zzf id (.p (.list k R)) (s.sl t),ob:=s.ob,us:=s.us }:=by
 rintro a w ⟨γ,M,hs⟩
 refine⟨γ,M,fun t=>?_,hs.ob,hs.us,hs.sep,hs.lo,hs.mem,hs.le,hs.new,hs.fr,hs.df,hs.nt,hs.gl⟩
 have hx:=hs.sl t
 show ARel γ M (zzf id _ (s.sl t)) _
 generalize s.sl t=x at hx
 cases x with
 | arr j=>
  simp only[zzf]
  cases hc:Nat.beq j id with
  | false=>exact hx
  | true=>
   have hj:=Nat.eq_of_beq_eq_true hc
   subst hj
   have hp:=(yR hs (x:=.arr j) (z:=.p (.list k R)) (by simp only[zbT,ho]) hx).p_inv
   exact .p _ _ hp
 | _=>exact hx
theorem zvM{id k:Nat}{e:TypeId}{R:Rows}(ho:s.ob id=some (.larr e true k R)):Sub C s { sl:=s.sl,ob:=upd s.ob id (some (.larr e false k R)),us:=s.us }:=by
 rintro a w ⟨γ,M,hs⟩
 obtain⟨ad,cap,vs,h1,h2,hA⟩:=hs.ob id _ ho
 let M':Mem:=fun b q=>if ad=some b then vs[q]? else M b q
 have hnone:∀ b,ad=some b->∀ q,M b q=none:=fun b hb=>hA.mem b hb
 have hle:MLe M M':=by
  intro b q v hv
  show(if ad=some b then vs[q]? else M b q)=some v
  by_cases hb:ad=some b
  .rw [hnone b hb q]at hv;cases hv
  .rw [if_neg hb];exact hv
 have hne:∀ b,ad≠some b->∀ q,M' b q=M b q:=fun b hb q=>if_neg hb
 have hsub:∀ k',upd s.ob id (some (AObj.larr e false k R)) k'≠none->s.ob k'≠none:=by
  intro k' hk
  by_cases hid:k'=id
  .subst hid;rw[ho];exact fun h=>by cases h
  .rw [zh _ _ hid]at hk;exact hk
 refine⟨γ,M',fun t=>(hs.sl t).mono (fun _ _ hx=>hx) hle,?_,hs.us,?_,?_,?_,hs.le.trans hle,?_,hs.fr,hs.df,hs.nt,hs.gl⟩
 .intro i o hi
  have hi:upd s.ob id (some (AObj.larr e false k R)) i=some o:=hi
  by_cases hid:i=id
  .subst hid
   rw[zc]at hi;cases hi
   refine⟨ad,cap,vs,h1,fun i j hi hj=>?_,hA.own,hA.one,hA.len,fun g hg q=>if_pos hg⟩
   obtain⟨v,hv,hr⟩:=h2 i j hi hj
   exact⟨v,hv,hr.mono hle⟩
  .rw [zh _ _ hid]at hi
   refine ztB hle (fun g hg b' hb' q=>hne b' (fun hbb=>?_) q) (hs.ob i o hi)
   exact hid (hs.sep i id g _ b' (by rw[hi];exact fun h=>by cases h) (by rw[ho];exact fun h=>by cases h) hg h1 hb' hbb)
 .intro i j g g' b' hi hj
  exact hs.sep i j g g' b' (hsub i hi) (hsub j hj)
 .intro i g b' hi
  exact hs.lo i g b' (hsub i hi)
 .refine ⟨?_,hs.mem.good.mono hle⟩
  intro b' q v hv
  have hv:(if ad=some b' then vs[q]? else M b' q)=some v:=hv
  by_cases hb:ad=some b'
  .rw [if_pos hb]at hv
   rcases hA.own.2 with⟨hv0,hn0⟩|⟨g',cap',cur,hv0,_,hh,_,_,_,htk⟩
   .rw [hb]at hv0;simp[yP]at hv0
   .rw [hb]at hv0
    simp only[yP,Option.map_some,Value.slice.injEq,Option.some.injEq,Addr.mk.injEq]at hv0
    obtain⟨⟨hg,_,_⟩,_,_⟩:=hv0
    rw[<-htk]at hv
    have hq:cur[q]?=some v:=by
     rw[List.getElem?_take]at hv
     split at hv
     .simpa using hv
     .cases hv
    subst hg
    simp[World.cell?,hh,hq]
  .rw [if_neg hb]at hv;exact hs.mem b' q v hv
 .intro b' hb1 hb2
  funext q
  by_cases hb:ad=some b'
  .have:=hs.lo id _ b' (by rw[ho];exact fun h=>by cases h) h1 hb
   rcases this.1 with h6|h6
   .omega
   .exact absurd h6 hb2
  .rw [hne b' hb q,hs.new b' hb1 hb2]
theorem zze{id:Nat}(h:zEL s id=some s'):Sub C s s':=by
 unfold zEL at h
 cases ho:s.ob id with
 | none=>rw[ho]at h;cases h
 | some o=>
  rw[ho]at h
  cases o with
  | cells cs=>
   dsimp only at h
   cases hall:cs.all zyU with
   | false=>rw[hall]at h;cases h
   | true=>
    rw[hall]at h
    cases h
    rintro a w ⟨γ,M,hs⟩
    obtain⟨b,vs,e,h1,h2,h3,h4,h5⟩:=hs.ob id _ ho
    let M':Mem:=fun b' q=>if b'=b then vs[q]? else M b' q
    have hle:MLe M M':=by
     intro b' q v hv
     show(if b'=b then vs[q]? else M b' q)=some v
     by_cases hb:b'=b
     .subst hb;rw[h5 q]at hv;cases hv
     .rw [if_neg hb];exact hv
    have hbq:∀ q,M' b q=vs[q]?:=fun q=>if_pos rfl
    have hne:∀ b',b'≠b->∀ q,M' b' q=M b' q:=fun b' hb q=>if_neg hb
    have hcs:∀ j,j<cs.length->zF M' (cs.getD j .any).pv (vs.getD j undef):=by
     intro j hj
     have h6:=(h4 j hj).1
     have h7:zyU (cs.getD j .any)=true:=by
      rw[List.getD_eq_getElem?_getD,List.getElem?_eq_getElem hj]
      exact(List.all_eq_true.1 hall) _ (List.getElem_mem hj)
     generalize cs.getD j .any=y at h6 h7
     cases y with
     | p x=>exact h6.p_inv.mono hle
     | _=>cases h7
    refine⟨γ,M',fun t=>zzc h1 hle hbq h3 hcs (hs.sl t),?_,hs.us,?_,?_,?_,hs.le.trans hle,?_,hs.fr,hs.df,hs.nt,hs.gl⟩
    .intro i o hi
     by_cases hid:i=id
     .subst hid
      have hi:upd s.ob i none i=some o:=hi
      rw[zc]at hi;cases hi
     .have hi:upd s.ob id none i=some o:=hi
      rw[zh _ _ hid]at hi
      refine ztB hle (fun g hg b' hb' q=>hne b' (fun hbb=>?_) q) (hs.ob i o hi)
      subst hbb
      exact hid (hs.sep i id g _ _ (by rw[hi];exact fun h=>by cases h) (by rw[ho];exact fun h=>by cases h) hg h1 hb' rfl)
    .intro i j g g' b' hi hj
     have hsub:∀ k,upd s.ob id none k≠none->s.ob k≠none:=by
      intro k hk
      by_cases hid:k=id
      .subst hid;rw[zc]at hk;exact absurd rfl hk
      .rw [zh _ _ hid]at hk;exact hk
     exact hs.sep i j g g' b' (hsub i hi) (hsub j hj)
    .intro i g b' hi
     refine hs.lo i g b' ?_
     have hi:upd s.ob id none i≠none:=hi
     by_cases hid:i=id
     .subst hid;rw[zc]at hi;exact absurd rfl hi
     .rw [zh _ _ hid]at hi;exact hi
    .refine ⟨?_,hs.mem.good.mono hle⟩
     intro b' q v hv
     have hv:(if b'=b then vs[q]? else M b' q)=some v:=hv
     by_cases hb:b'=b
     .subst hb
      rw[if_pos rfl]at hv
      simp[World.cell?,h2,hv]
     .rw [if_neg hb]at hv;exact hs.mem b' q v hv
    .intro b' hb1 hb2
     funext q
     by_cases hb:b'=b
     .subst hb
      have:=hs.lo id _ b' (by rw[ho];exact fun h=>by cases h) h1 rfl
      rcases this.1 with h6|h6
      .omega
      .exact absurd h6 hb2
     .rw [hne b' hb q,hs.new b' hb1 hb2]
  | larr e mu k R=>
   cases mu with
   | true=>
    cases h
    exact fun a w hs=>zqK (s:={ sl:=s.sl,ob:=upd s.ob id (some (.larr e false k R)),us:=s.us }) (id:=id) (zc _ _ _) a w (zvM ho a w hs)
   | false=>
    cases h
    exact zqK ho
  | _=>cases h
theorem zqI{id:Nat}{y:AV}{b:Nat}(hγ:γ id=some (.cell b))(hM:MLe M M')(hy:ARel γ M' y (.pointer (some ⟨b,0,none⟩))){x:AV}{v:Value}(h:ARel γ M x v):ARel γ M' (zsM id y x) v:=by
 have hm:ARel γ M' x v:=h.mono (fun _ _ hx=>hx) hM
 cases x with
 | ref j off=>
  cases off with
  | zero=>
   simp only[zsM]
   cases hc:Nat.beq j id with
   | false=>exact hm
   | true=>
    have hj:=Nat.eq_of_beq_eq_true hc
    subst hj
    obtain⟨b',h1,rfl⟩:=h.ref_inv
    rw[hγ]at h1;cases h1
    exact hy
  | succ off=>exact hm
 | _=>exact hm
theorem zzb{id:Nat}{y:AV}{b:Nat}(hγ:γ id=some (.cell b))(hM:MLe M M')(hy:ARel γ M' y (.pointer (some ⟨b,0,none⟩))){x:AV}{v:Value}(h:ARel γ M x v):ARel γ M' (frzX id y x) v:=by
 cases x with
 | clo fn fs xs=>
  cases h with
  | clo _ _ _ vf vc hf hc h1 h2=>
   have key:∀ (l:List AV) (ws:Array Value),(∀ i,i<l.length->ARel γ M (l.getD i .any) (ws.getD i undef))->∀ i,i<(l.map (zsM id y)).length->ARel γ M' ((l.map (zsM id y)).getD i .any) (ws.getD i undef):=by
    intro l ws hl i hi
    have hi':i<l.length:=by simpa using hi
    have:=zqI hγ hM hy (hl i hi')
    rw[List.getD_eq_getElem?_getD,List.getElem?_eq_getElem hi']at this
    rw[List.getD_eq_getElem?_getD,List.getElem?_map,List.getElem?_eq_getElem hi']
    exact this
   exact .clo fn _ _ vf vc (by simpa using hf) (by simpa using hc) (key fs vf h1) (key xs vc h2)
 | _=>exact zqI hγ hM hy h
theorem zsK{id b:Nat}{cs:List AV}{vs:Array Value}{e:TypeId}{a:Act}{w:World}(hs:StG C γ M s a w)(ho:s.ob id=some (.cells cs))(h1:γ id=some (.cell b))(h2:w.heap[b]?=some (.cells vs e (0,0)))(h5:∀ q,M b q=none)
 {sl':Nat->AV} (hsl:∀ M':Mem,MLe M M'->(∀ q,M' b q=vs[q]?)->∀ t,ARel γ M' (sl' t) (a.tmps.getD t undef)):St C { sl:=sl',ob:=upd s.ob id none,us:=s.us } a w:=by
 let M':Mem:=fun b' q=>if b'=b then vs[q]? else M b' q
 have hle:MLe M M':=by
  intro b' q v hv
  show(if b'=b then vs[q]? else M b' q)=some v
  by_cases hb:b'=b
  .subst hb;rw[h5 q]at hv;cases hv
  .rw [if_neg hb];exact hv
 have hbq:∀ q,M' b q=vs[q]?:=fun q=>if_pos rfl
 have hne:∀ b',b'≠b->∀ q,M' b' q=M b' q:=fun b' hb q=>if_neg hb
 refine⟨γ,M',fun t=>hsl M' hle hbq t,?_,hs.us,?_,?_,?_,hs.le.trans hle,?_,hs.fr,hs.df,hs.nt,hs.gl⟩
 .intro i o hi
  by_cases hid:i=id
  .subst hid
   have hi:upd s.ob i none i=some o:=hi
   rw[zc]at hi;cases hi
  .have hi:upd s.ob id none i=some o:=hi
   rw[zh _ _ hid]at hi
   refine ztB hle (fun g hg b' hb' q=>hne b' (fun hbb=>?_) q) (hs.ob i o hi)
   subst hbb
   exact hid (hs.sep i id g _ _ (by rw[hi];exact fun h=>by cases h) (by rw[ho];exact fun h=>by cases h) hg h1 hb' rfl)
 .intro i j g g' b' hi hj
  have hsub:∀ k,upd s.ob id none k≠none->s.ob k≠none:=by
   intro k hk
   by_cases hid:k=id
   .subst hid;rw[zc]at hk;exact absurd rfl hk
   .rw [zh _ _ hid]at hk;exact hk
  exact hs.sep i j g g' b' (hsub i hi) (hsub j hj)
 .intro i g b' hi
  refine hs.lo i g b' ?_
  have hi:upd s.ob id none i≠none:=hi
  by_cases hid:i=id
  .subst hid;rw[zc]at hi;exact absurd rfl hi
  .rw [zh _ _ hid]at hi;exact hi
 .refine ⟨?_,hs.mem.good.mono hle⟩
  intro b' q v hv
  have hv:(if b'=b then vs[q]? else M b' q)=some v:=hv
  by_cases hb:b'=b
  .subst hb
   rw[if_pos rfl]at hv
   simp[World.cell?,h2,hv]
  .rw [if_neg hb]at hv;exact hs.mem b' q v hv
 .intro b' hb1 hb2
  funext q
  by_cases hb:b'=b
  .subst hb
   have:=hs.lo id _ b' (by rw[ho];exact fun h=>by cases h) h1 rfl
   rcases this.1 with h6|h6
   .omega
   .exact absurd h6 hb2
  .rw [hne b' hb q,hs.new b' hb1 hb2]
theorem zzd{id t:Nat}(h:zEK P s id t=some s'):Sub C s s':=by
 cases t with
 | zero=>exact zze h
 | succ t=>
  simp only[zEK]at h
  split at h
  .rename_i cs c ho hc
   split at h
   .rename_i x hall hx
    cases h
    rintro a w ⟨γ,M,hs⟩
    obtain⟨b,vs,e,h1,h2,h3,h4,h5⟩:=hs.ob id _ ho
    refine zsK hs ho h1 h2 h5 fun M' hle hbq i=>?_
    refine zzb h1 hle (.p _ _ ?_) (hs.sl i)
    obtain⟨hw,hcell⟩:=zd9 (M:=M') hx
    refine .box _ _ b 0 (fun j=>vs.getD j undef) (fun j hj=>?_) (fun j hj=>hcell j hj _ ?_)
    .have hlt:j<vs.size:=by rw[h3];rw[List.length_map]at hw;omega
     rw[Nat.zero_add,hbq,Array.getElem?_eq_getElem hlt,Array.getD_eq_getD_getElem?,Array.getElem?_eq_getElem hlt];rfl
    .have hjl:j<cs.length:=by rw[List.length_map]at hw;omega
     have h6:=(h4 j hjl).1
     have h7:zyU (cs.getD j .any)=true:=by
      rw[List.getD_eq_getElem?_getD,List.getElem?_eq_getElem hjl]
      exact(List.all_eq_true.1 hall) _ (List.getElem_mem hjl)
     have e1:(cs.map AV.pv).getD j .bad=(cs.getD j .any).pv:=by
      rw[List.getD_eq_getElem?_getD,List.getD_eq_getElem?_getD,List.getElem?_map,List.getElem?_eq_getElem hjl];rfl
     rw[e1]
     generalize cs.getD j .any=y at h6 h7
     cases y with
     | p z=>exact h6.p_inv.mono hle
     | _=>cases h7
   .cases h
  .cases h
theorem zqJ:∀ {l:List Nat} {s s':S},zB9 P s l=some s'->Sub C s s'
 | [],s,s',h=>by cases h;exact Sub.refl s
 | [_],s,s',h=>by cases h;exact Sub.refl s
 | i::t::r,s,s',h=>by
  simp only[zB9]at h
  split at h
  .rename_i s1 h1
   exact fun a w hs=>zqJ h a w (zzd h1 a w hs)
  .cases h
end Go.Am
/-! A function's body, run over states: one computation, proved sound once. -/
namespace Go.Am
open Go Go.RowKit
variable {P:Program}{γ γ':Nat->Option G}{M M':Mem}{C:Ctx}{s s':S}{a a':Act}{w w':World}
inductive Src where
 | slot (t:Nat)
 | cell (id ix:Nat)
 | fix (id:Nat)
 | comp (t q:Nat)
structure Own where
 src:Src
 new:Nat
 emp:AObj
structure Cut where
 slots:List Nat
 own:List Own
def zDX(s:S)(rn:Rn):Src->AV
 | .slot t=>s.sl t
 | .cell id ix=>match zBJ s (zI rn id)with
  | some (.cells cs)=>cs.getD ix .any
  | some (.bldr _ a)=>a
  | _=>.any
 | .fix id=>.arr id
 | .comp t q=>match s.sl t with
  | .agg cs=>cs.getD q .any
  | .tup cs=>cs.getD q .any
  | .clo _ fs cs=>(fs++cs).getD q .any
  | _=>.any
def zHb:AV->Option (Option Nat)
 | .arr old=>some (some old)
 | .ref old _=>some (some old)
 | .mref old=>some (some old)
 | .p .nil=>some none
 | _=>none
def zkT(s:S):Rn->List Own->Option Rn
 | rn,[]=>some rn
 | rn,o::r=>match zHb (zDX s rn o.src)with
  | some old=>zkT s (rn++[(o.new,old)]) r
  | none=>none
def zoR:Rn->Rn
 | []=>[]
 | (i,some j)::r=>(j,some i)::zoR r
 | (_,none)::r=>zoR r
def zfE(own:List Own)(t:Nat):Option Nat:=
 match own with
 | []=>none
 | o::r=>match o.src with
  | .slot t'=>match Nat.beq t t' with|true=>some o.new|false=>zfE r t
  | _=>zfE r t
def zf7(own:List Own)(id ix:Nat):Option Nat:=
 match own with
 | []=>none
 | o::r=>match o.src with
  | .cell id' ix'=>match Nat.beq id id'&&Nat.beq ix ix' with|true=>some o.new|false=>zf7 r id ix
  | _=>zf7 r id ix
def zhu:AV->Bool
 | .p .nil=>true
 | _=>false
def zjx(fw:Rn)(nm:Option Nat)(x:AV):AV:=
 match nm,zhu x with
 | some id,true=>.arr id
 | _,_=>zgg fw x
def okA(rn fw:Rn)(nm:Option Nat)(x:AV):Bool:=
 match nm,zhu x with
 | some id,true=>(zI rn id).isNone&&(ze id rn).isSome
 | _,_=>zkn fw x
theorem zht{x:AV}(h:zhu x=true):x=.p .nil:=by
 unfold zhu at h;split at h
 .rfl
 .cases h
section
variable {rn fw:Rn}{ids:List (Nat×Nat)}(hinv:∀ i j,zI fw j=some i->zI rn i=some j/\(ze i ids).isSome=true)(hk:∀ i,(ze i ids).isSome=(ze i rn).isSome)
include hinv hk
theorem zhR{nm:Option Nat}{x:AV}(h:okA rn fw nm x=true):zbG (zI rn) x (zjx fw nm x)/\zcv ids (zjx fw nm x):=by
 unfold okA at h
 unfold zjx
 split at h
 .rename_i hn
  rw[Bool.and_eq_true]at h
  rw[zht hn]
  exact⟨.nil _ (by cases hr:zI rn _ with|none=>rfl|some _=>rw[hr]at h;cases h.1),.arr _ (by rw[hk];exact h.2)⟩
 .exact zlN hinv h
end
abbrev Dm:=Option (Nat×Ec)
def dmPV:Nat×Ec->PV:=fun q=>.list q.1 (.dat q.2 [])
def zrg(dm:Dm)(y:AV):AV:=
 match dm,zhu y with
 | some q,true=>.p (dmPV q)
 | _,_=>y
theorem zCz{ren:Nat->Option Nat}{x:AV}{q:PV}(hq:∀ M v,zF M .nil v->zF M q v)(h:zbG ren x (.p .nil)):zbG ren x (.p q):=by
 generalize hy:(AV.p PV.nil)=y at h
 cases h <;> first
  | cases hy;exact .pv _ _ hq
  | (cases hy;rename_i h;exact .pv _ _ fun M v hv=>hq M v (h M v hv))
  | cases hy
theorem covD{ren:Nat->Option Nat}{ids:List (Nat×Nat)}{x y:AV}{dm:Dm}(h:zbG ren x y/\zcv ids y):zbG ren x (zrg dm y)/\zcv ids (zrg dm y):=by
 unfold zrg
 split
 .rename_i q hy
  rw[zht hy]at h
  exact⟨zCz (fun M v hv=>by cases hv;exact .listNil _ _ rfl) h.1,.p _⟩
 .exact h
def zq9:Nat:=9000000000000
def zgn:List Own->List Own
 | []=>[]
 | o::r=>match Nat.ble zq9 o.new with|true=>zgn r|false=>o::zgn r
def zta(own:List Own)(id ix:Nat):Dm:=
 match own with
 | []=>none
 | o::r=>match o.src,Nat.ble zq9 o.new,o.emp with
  | .cell id' ix',true,.larr _ _ k (.dat c _)=>match Nat.beq id id'&&Nat.beq ix ix' with|true=>some (k,c)|false=>zta r id ix
  | _,_,_=>zta r id ix
def znH(fw:Rn)(nm:Nat->Option Nat)(dm:Nat->Dm):Nat->List AV->List AV
 | _,[]=>[]
 | i,x::r=>zrg (dm i) (zjx fw (nm i) x)::znH fw nm dm (i+1) r
def okL(rn fw:Rn)(nm:Nat->Option Nat):Nat->List AV->Bool
 | _,[]=>true
 | i,x::r=>okA rn fw (nm i) x&&okL rn fw nm (i+1) r
theorem zf6{fw:Rn}{nm:Nat->Option Nat}{dm:Nat->Dm}:∀ {i:Nat} {l:List AV},(znH fw nm dm i l).length=l.length
 | _,[]=>rfl
 | i,x::r=>by simp only[znH,List.length_cons,zf6]
theorem ziU{fw:Rn}{nm:Nat->Option Nat}{dm:Nat->Dm}:∀ {l:List AV} {i k:Nat},k<l.length->(znH fw nm dm i l).getD k .any=zrg (dm (i+k)) (zjx fw (nm (i+k)) (l.getD k .any))
 | [],i,k,h=>by cases h
 | x::r,i,0,_=>rfl
 | x::r,i,k+1,h=>by
  have:=ziU (fw:=fw) (nm:=nm) (dm:=dm) (l:=r) (i:=i+1) (k:=k) (by simpa using h)
  simp only[znH,List.getD_cons_succ,this]
  rw[show i+1+k=i+(k+1) by omega]
theorem zox{rn fw:Rn}{nm:Nat->Option Nat}:∀ {l:List AV} {i k:Nat},okL rn fw nm i l=true->k<l.length->okA rn fw (nm (i+k)) (l.getD k .any)=true
 | [],i,k,_,h=>by cases h
 | x::r,i,0,h,_=>by simp only[okL,Bool.and_eq_true]at h;exact h.1
 | x::r,i,k+1,h,hk=>by
  simp only[okL,Bool.and_eq_true]at h
  have:=zox (l:=r) (i:=i+1) (k:=k) h.2 (by simpa using hk)
  simp only[List.getD_cons_succ]
  have e:i+(k+1)=i+1+k:=by omega
  rw[e];exact this
def zuW(rn fw:Rn)(own dt:List Own)(id:Nat):AObj->Option AObj
 | .cells cs=>match okL rn fw (zf7 own id) 0 cs with
  | true=>some (.cells (znH fw (zf7 own id) (zta dt id) 0 cs))
  | false=>none
 | .bldr T a=>match okA rn fw (zf7 own id 1) a with
  | true=>some (.bldr T (zjx fw (zf7 own id 1) a))
  | false=>none
 | o=>some o
def zlU(s:S)(rn0 fw:Rn)(own dt:List Own):Rn->List Own->Option (List (Nat×AObj))
 | [],_=>some []
 | (id,old)::r,os=>
  match (match old with
   | some j=>match s.ob j with
    | some ob=>zuW rn0 fw own dt id ob
    | none=>none
   | none=>match os with
    | o::_=>match ziQ o.emp with|true=>some o.emp|false=>none
    | []=>none)with
  | some ob=>match zlU s rn0 fw own dt r os.tail with
   | some l=>some ((id,ob)::l)
   | none=>none
  | none=>none
def zda(s:S)(rn fw:Rn)(own:List Own):List Nat->Option (List (Nat×AV))
 | []=>some []
 | t::r=>match okA rn fw (zfE own t) (s.sl t)with
  | true=>match zda s rn fw own r with
   | some l=>some ((t,zjx fw (zfE own t) (s.sl t))::l)
   | none=>none
  | false=>none
def zzQ(fx:List Nat)(rn:Rn):Bool:=fixB fx rn&&(zaF (olds rn)&&zaF (rn.map (·.1)))
def zaA(fx:List Nat)(c:Cut)(s:S):Option S:=
 match zkT s [] (zgn c.own)with
 | some rn=>match zzQ fx rn with
  | true=>match zda s rn (zoR rn) (zgn c.own) c.slots with
   | some l=>match zlU s rn (zoR rn) (zgn c.own) c.own rn (zgn c.own)with
    | some o=>some (mkS l o)
    | none=>none
   | none=>none
  | false=>none
 | none=>none
theorem zlw:∀ {rn:Rn} {i j:Nat},(j,some i) ∈ zoR rn->(i,some j) ∈ rn
 | [],i,j,h=>by cases h
 | (a,some b)::r,i,j,h=>by
  simp only[zoR,List.mem_cons]at h
  rcases h with h|h
  .cases h;simp
  .exact List.mem_cons_of_mem _ (zlw h)
 | (a,none)::r,i,j,h=>List.mem_cons_of_mem _ (zlw (rn:=r) h)
theorem zgs{s:S}{rn fw:Rn}{own:List Own}:∀ {ts:List Nat} {l:List (Nat×AV)},zda s rn fw own ts=some l->
 ∀ p ∈ l,okA rn fw (zfE own p.1) (s.sl p.1)=true/\p.2=zjx fw (zfE own p.1) (s.sl p.1)
 | [],l,h,p,hp=>by cases h;cases hp
 | t::r,l,h,p,hp=>by
  simp only[zda]at h
  split at h
  .rename_i hok
   split at h
   .rename_i l' hl
    cases h
    rcases List.mem_cons.1 hp with e|e
    .subst e;exact⟨hok,rfl⟩
    .exact zgs hl p e
   .cases h
  .cases h
theorem zjA{s:S}{rn0 fw:Rn}{own dt:List Own}:∀ {rn:Rn} {os:List Own} {o:List (Nat×AObj)},zlU s rn0 fw own dt rn os=some o->
 o.map (·.1)=rn.map (·.1)/\∀ p ∈ o,∃ old,(p.1,old) ∈ rn/\match old with
  | some j=>∃ ob,s.ob j=some ob/\zuW rn0 fw own dt p.1 ob=some p.2
  | none=>ziQ p.2=true
 | [],os,o,h=>by cases h;exact⟨rfl,fun p hp=>by cases hp⟩
 | (id,old)::r,os,o,h=>by
  simp only[zlU]at h
  split at h
  .rename_i ob hob
   split at h
   .rename_i l hl
    cases h
    obtain⟨h1,h2⟩:=zjA hl
    refine⟨by simp[h1],fun p hp=>?_⟩
    rcases List.mem_cons.1 hp with e|e
    .subst e
     refine⟨old,by simp,?_⟩
     cases old with
     | some j=>
      dsimp only at hob ⊢
      cases ho:s.ob j with
      | none=>rw[ho]at hob;cases hob
      | some ob'=>rw[ho]at hob;exact⟨ob',rfl,hob⟩
     | none=>
      dsimp only at hob ⊢
      cases os with
      | nil=>cases hob
      | cons o _=>
       dsimp only at hob
       split at hob
       .rename_i he;cases hob;exact he
       .cases hob
    .obtain ⟨old',hm,hx⟩:=h2 p e
     exact⟨old',List.mem_cons_of_mem _ hm,hx⟩
   .cases h
  .cases h
theorem zlL{nt:Nat}{fx:List Nat}(hC:zaZ C nt fx){c:Cut}{s s':S}(h:zaA fx c s=some s'):Sub C s s':=by
 unfold zaA at h
 split at h
 .rename_i rn hrn
  split at h
  .rename_i hok
   split at h
   .rename_i l hl
    split at h
    .rename_i o ho
     cases h
     unfold zzQ at hok
     simp only[Bool.and_eq_true]at hok
     obtain⟨hfix,hold,hnd⟩:=hok
     obtain⟨hkeys,hob⟩:=zjA ho
     have hids:o.map (·.1)=(yd o).map (·.1):=by simp[yd]
     have hkk:∀ i,(ze i (yd o)).isSome=(ze i rn).isSome:=fun i=>by rw[<-zc5 hids i];exact zc5 hkeys i
     have hinv:∀ i j,zI (zoR rn) j=some i->zI rn i=some j/\(ze i (yd o)).isSome=true:=by
      intro i j hr
      have hm:=zlw (zkU hr)
      have hl:=zaq hnd hm
      refine⟨by unfold zI;rw[hl],by rw[hkk,hl];rfl⟩
     have hnd':zaF ((yd o).map (·.1))=true:=by rw[<-hids,hkeys];exact hnd
     refine zAu (yd o) (zI rn) hids ?_ ?_ (fun i g hg=>?_) (fun i j old hi hj _ _=>zm9 hold i j old hi hj)
     .refine zpz fun p hp=>?_
      obtain⟨h1,h2⟩:=zgs hl p hp
      obtain⟨c1,c2⟩:=zhR hinv hkk h1
      rw[h2];exact⟨c1,c2⟩
     .refine zpz fun p hp=>?_
      obtain⟨old,hm,hx⟩:=hob p hp
      have hl:=zaq hnd hm
      cases old with
      | some j=>
       obtain⟨ob,ho1,hc⟩:=hx
       have hr:zI rn p.1=some j:=by unfold zI;rw[hl]
       rw[hr]
       cases ob with
       | barr e mu l'=>have hc':=Option.some.inj hc;rw[<-hc'];exact⟨trivial,_,ho1,.refl_b _ _ _⟩
       | larr e mu k R=>have hc':=Option.some.inj hc;rw[<-hc'];exact⟨trivial,_,ho1,.larr _ _ _ _⟩
       | bcv e l'=>have hc':=Option.some.inj hc;rw[<-hc'];exact⟨trivial,_,ho1,.bcv _ _⟩
       | raw o'=>have hc':=Option.some.inj hc;rw[<-hc'];exact⟨trivial,_,ho1,.raw _⟩
       | mp e l'=>have hc':=Option.some.inj hc;rw[<-hc'];exact⟨trivial,_,ho1,.mp _ _⟩
       | bldr T x=>
        simp only[zuW]at hc
        split at hc
        .rename_i hokx
         have hc':=Option.some.inj hc
         rw[<-hc']
         exact⟨(zhR hinv hkk hokx).2,_,ho1,.bldr _ _ _ (zhR hinv hkk hokx).1⟩
        .cases hc
       | cells cs=>
        simp only[zuW]at hc
        split at hc
        .rename_i hokl
         simp only[Option.some.injEq]at hc
         rw[<-hc]
         refine⟨fun i hi=>?_,_,ho1,.cells _ _ zf6.symm fun i hi=>?_⟩
         .have hi':i<cs.length:=by rw[zf6]at hi;exact hi
          rw[ziU hi']
          exact(covD (zhR hinv hkk (zox hokl hi'))).2
         .have hi':i<cs.length:=by rw[zf6]at hi;exact hi
          rw[ziU hi']
          exact(covD (zhR hinv hkk (zox hokl hi'))).1
        .cases hc
      | none=>
       have hr:zI rn p.1=none:=by unfold zI;rw[hl]
       rw[hr]
       have he:ziQ p.2=true:=hx
       refine⟨by cases hp2:p.2 with|cells cs=>rw[hp2]at he;cases he|bldr _ _=>rw[hp2]at he;cases he|_=>exact trivial,fun k hk'=>?_⟩
       have:ze p.1 (yd o)=some (kOf p.2):=zaq hnd' (List.mem_map.2 ⟨p,hp,rfl⟩)
       rw[this]at hk';cases hk'
       exact zju he
     .have h1:=(List.all_eq_true.1 hfix) i (hC.fx i g hg)
      cases hr:zI rn i with
      | none=>rw[hr]at h1;cases h1
      | some j=>
       rw[hr]at h1
       have:i=j:=Nat.eq_of_beq_eq_true h1
       subst this
       exact⟨rfl,by rw[hkk];exact zfJ (by rw[hr];rfl)⟩
    .cases h
   .cases h
  .cases h
 .cases h
abbrev Ans:=AV×List (Nat×AObj)
abbrev K:=Exit->S->Option Ans
def need(p:Prop)(x:Option Ans):Option Ans:=@ite _ p (Classical.propDecidable p) x none
theorem zyr{p:Prop}{x:Option Ans}{r:Ans}(h:need p x=some r):p/\x=some r:=by
 unfold need at h
 by_cases hp:p
 .rw [if_pos hp]at h;exact⟨hp,h⟩
 .rw [if_neg hp]at h;cases h
theorem zk9{p:Prop}{x:Option Ans}(h:p):need p x=x:=by unfold need;rw[if_pos h]
theorem zk{p:Prop}{x r:Option Ans}(h:p)(k:x=r):need p x=r:=by rw[zk9 h,k]
theorem yL{b:Bool}{x y r:Option Ans}(h:b=true)(k:x=r):cond b x y=r:=by rw[h];exact k
theorem yM{b:Bool}{x y r:Option Ans}(h:b=false)(k:y=r):cond b x y=r:=by rw[h];exact k
def zqi:List Prop->Option Ans->Option Ans
 | [],x=>x
 | p::r,x=>need p (zqi r x)
theorem zfO{x:Option Ans}{r:Ans}:∀ {ps:List Prop},zqi ps x=some r->All ps/\x=some r
 | [],h=>⟨trivial,h⟩
 | p::ps,h=>by
  obtain⟨h1,h2⟩:=zyr h
  obtain⟨h3,h4⟩:=zfO h2
  exact⟨⟨h1,h3⟩,h4⟩
def agree(x y:Option Ans):Option Ans:=@ite _ (x=y) (Classical.propDecidable (x=y)) x none
theorem zwM{x y:Option Ans}{r:Ans}(h:agree x y=some r):x=some r/\y=some r:=by
 unfold agree at h
 by_cases e:x=y
 .rw [if_pos e]at h;exact⟨h,e ▸ h⟩
 .rw [if_neg e]at h;cases h
structure Cfg where
 P:Program
 env:Env
 envR:zaK
 nt:Nat
 fx:List Nat
 cuts:List (List Nat×Cut)
 rs:List (List Nat×List Nat)
def zAb:List Nat->List Nat->Bool
 | [],[]=>true
 | a::r,b::q=>Nat.beq a b&&zAb r q
 | _,_=>false
def zhq{α:Type}(p:List Nat):List (List Nat×α)->Option α
 | []=>none
 | q::r=>match zAb p q.1 with|true=>some q.2|false=>zhq p r
def zuV(G:Cfg)(p:List Nat)(s:S)(next:S->Option Ans):Option Ans:=
 match zhq p G.cuts with
 | none=>next s
 | some c=>match zaA G.fx c s with
  | some s'=>next s'
  | none=>none
def zzR(G:Cfg)(p:List Nat)(s:S)(next:S->Option Ans):Option Ans:=
 match zhq (888888::p) G.rs with
 | none=>zuV G p s next
 | some l=>match zB9 G.P s l with
  | some s1=>zuV G p s1 next
  | none=>none
def zvW(G:Cfg)(p:List Nat)(next:S->Option Ans)(k:K):K:=fun e s=>
 match e with
 | .normal=>zzR G p s next
 | e=>k e s
theorem zjk{G:Cfg}{p:List Nat}{next:S->Option Ans}{k:K}{s:S}:zvW G p next k .normal s=zzR G p s next:=rfl
def zEy(id:Nat)(k:K):K:=fun e s=>
 match e with
 | .exit i=>match Nat.beq i id with
  | true=>k .normal s
  | false=>k (.exit i) s
 | e=>k e s
def kScp(k:K):K:=fun e s=>
 match e with
 | .goto _=>none
 | e=>k e s
def yV(G:Cfg)(again:List Nat->Code->S->K->Option Ans):List Nat->Code->S->K->Option Ans
 | _,.skip,s,k=>k .normal s
 | _,.label _,s,k=>k .normal s
 | p,.region _ ops d,s,k=>
  match zV G.P G.env G.envR G.nt ops ((zhq p G.rs).getD []) (List.range ops.size) s with
  | some (s',ps)=>match zhq (999999::p) G.rs with
   | none=>match !d||((zf5 ops ((zhq p G.rs).getD [])||zhP ops ((zhq p G.rs).getD []) s'.sl)&&zeA ops)with
    | true=>zqi ps (k .normal s')
    | false=>none
   | some (u::v::lB)=>match d&&(zo7 ops ((zhq p G.rs).getD []) u v lB&&zeA ops),zV G.P G.env G.envR G.nt ops ((zhq p G.rs).getD []) lB s with
    | true,some (s2,ps2)=>zqi ps (zqi ps2 (agree (k .normal s') (k .normal s2)))
    | _,_=>none
   | some _=>none
  | none=>none
 | p,.seq a b,s,k=>yV G again (0::p) a s (zvW G (1::p) (fun s2=>yV G again (1::p) b s2 k) k)
 | p,.cond x a b,s,k=>match aev s.sl x with
  | .p (.bool c)=>cond c (yV G again (0::p) a s k) (yV G again (1::p) b s k)
  | _=>none
 | p,.block id a,s,k=>yV G again (0::p) a s (zEy id k)
 | p,.loop b,s,k=>zzR G p s (fun s0=>again p b s0 k)
 | p,.scope a,s,k=>yV G again (0::p) a s (kScp k)
 | _,.exit id,s,k=>k (.exit id) s
 | _,.ret,s,k=>k .ret s
 | _,_,_,_=>none
def zjO(G:Cfg)(n:Nat):List Nat->Code->S->K->Option Ans:=
 Nat.rec (motive:=fun _=>List Nat->Code->S->K->Option Ans) (fun _ _ _ _=>none)
  (fun _ ih p b s k=>yV G ih (0::p) b s (zvW G p (fun s2=>ih p b s2 k) k)) n
structure zbV(G:Cfg)(P:Program)(C:Ctx):Prop where
 p:G.P=P
 env:yQ P G.env
 envR:zal P G.envR
 ctx:zaZ C G.nt G.fx
 mx:P.follows .mixedOrders=true
theorem znG{G:Cfg}(hG:zbV G P C){p:List Nat}{s:S}{next:S->Option Ans}{r:Ans}(h:zuV G p s next=some r):∃ s',Sub C s s'/\next s'=some r:=by
 unfold zuV at h
 split at h
 .exact ⟨s,Sub.refl s,h⟩
 .split at h
  .rename_i s' hs;exact⟨s',zlL hG.ctx hs,h⟩
  .cases h
theorem zlM{G:Cfg}(hG:zbV G P C){p:List Nat}{s:S}{next:S->Option Ans}{r:Ans}(h:zzR G p s next=some r):∃ s',Sub C s s'/\next s'=some r:=by
 unfold zzR at h
 split at h
 .exact znG hG h
 .split at h
  .rename_i s1 h1
   obtain⟨s',h2,h3⟩:=znG hG h
   exact⟨s',fun a w hs=>h2 a w (zqJ h1 a w hs),h3⟩
  .cases h
theorem zCT{c:Code}{Q:Exit->S->Prop}(h:T P C c s (fun e s'=>match e with|.goto _=>False|e=>Q e s')):T P C (.scope c) s Q:=by
 intro a w hs
 refine zaa (wpIn_mono (h a w hs) fun e a' w' ⟨s',hq,hs'⟩=>?_)
 cases e <;> first
  | exact hq.elim
  | exact⟨s',hq,hs'⟩
theorem zcV{G:Cfg}(hG:zbV G P C){again:List Nat->Code->S->K->Option Ans}{r:Ans}
 (hag:∀ (p:List Nat) (b:Code) (s:S) (k:K) (Q:Exit->S->Prop),again p b s k=some r->(∀ e s',k e s'=some r->Q e s')->T P C (.loop b) s Q):
 ∀ (c:Code) (p:List Nat) (s:S) (k:K) (Q:Exit->S->Prop),yV G again p c s k=some r->(∀ e s',k e s'=some r->Q e s')->T P C c s Q:=by
 intro c
 induction c with
 | skip=>intro p s k Q h hk;rw[yV]at h;exact zAp (hk _ _ h)
 | label l=>intro p s k Q h hk;rw[yV]at h;exact zCU (hk _ _ h)
 | region id ops d=>
  intro p s k Q h hk
  rw[yV]at h
  obtain⟨hP,henv,henvR,hctx,hmx⟩:=hG
  subst hP
  have hnt:=hctx.nt
  rw[<-hnt]at h
  split at h
  .rename_i s' ps ha
   split at h
   .split at h
    .rename_i hd
     obtain⟨hp,hx⟩:=zfO h
     cases d with
     | false=>intro a w hs;exact wpIn_region (zru henv henvR _ ha hp hs fun a' w' hs'=>⟨s',hk _ _ hx,hs'⟩)
     | true=>
      simp only[Bool.not_true,Bool.false_or,Bool.and_eq_true,Bool.or_eq_true]at hd
      rcases hd.1 with hd1|hd1
      .exact zl8 henv henvR hmx hd1 hd.2 ha hp (hk _ _ hx)
      .exact ztz henv henvR hmx hd1 hd.2 ha hp (hk _ _ hx)
    .cases h
   .split at h
    .rename_i s2 ps2 hd hB
     obtain⟨hp,hx⟩:=zfO h
     obtain⟨hp2,hx2⟩:=zfO hx
     obtain⟨h1,h2⟩:=zwM hx2
     simp only[Bool.and_eq_true]at hd
     obtain⟨hd0,hd1,hd2⟩:=hd
     subst hd0
     exact ztA henv henvR hmx hd1 hd2 ha hB hp hp2 (hk _ _ h1) (hk _ _ h2)
    .cases h
   .cases h
  .cases h
 | seq x y ihx ihy=>
  intro p s k Q h hk
  rw[yV]at h
  refine zDE (ihx _ _ _ _ h fun e s' he=>?_)
  cases e <;> first
   | (rw [zjk] at he
      obtain⟨s2,hsub,h2⟩:=zlM hG he
      exact(ihy _ _ _ _ h2 hk).weaken hsub)
   | exact hk _ _ he
 | cond x y z ihy ihz=>
  intro p s k Q h hk
  rw[yV]at h
  split at h
  .rename_i c hc
   refine zAt hc (fun hb=>?_) (fun hb=>?_)
   .rw [hb]at h;exact ihy _ _ _ _ h hk
   .rw [hb]at h;exact ihz _ _ _ _ h hk
  .cases h
 | block id x ih=>
  intro p s k Q h hk
  rw[yV]at h
  refine zu8 (ih _ _ _ _ h fun e s' he=>?_)
  cases e <;> first
   | exact hk _ _ he
   | (simp only [zEy] at he
      simp only[zgc]
      split at he
      .rename_i hb;rw[if_pos (Nat.eq_of_beq_eq_true hb)];exact hk _ _ he
      .rename_i hb;rw[if_neg (fun e=>by rw[e,Nat.beq_refl]at hb;cases hb)];exact hk _ _ he)
 | loop b _=>
  intro p s k Q h hk
  rw[yV]at h
  obtain⟨s',hsub,h2⟩:=zlM hG h
  exact(hag _ _ _ _ _ h2 hk).weaken hsub
 | scope x ih=>
  intro p s k Q h hk
  rw[yV]at h
  refine zCT (ih _ _ _ _ h fun e s' he=>?_)
  cases e <;> first
   | exact hk _ _ he
   | cases he
 | exit id=>intro p s k Q h hk;rw[yV]at h;exact zAs (hk _ _ h)
 | ret=>intro p s k Q h hk;rw[yV]at h;exact zDF (hk _ _ h)
 | rangeFunc f ps x y=>intro p s k Q h hk;rw[yV]at h <;> first|cases h|(intros;contradiction)
 | goto l=>intro p s k Q h hk;rw[yV]at h <;> first|cases h|(intros;contradiction)
 | refuse l=>intro p s k Q h hk;rw[yV]at h <;> first|cases h|(intros;contradiction)
theorem zgA{G:Cfg}(hG:zbV G P C){r:Ans}:∀ (n:Nat) (p:List Nat) (b:Code) (s:S) (k:K) (Q:Exit->S->Prop),zjO G n p b s k=some r->(∀ e s',k e s'=some r->Q e s')->T P C (.loop b) s Q:=by
 intro n
 induction n using Nat.strongRecOn with
 | _ n ih=>
  intro p b s k Q h hk
  refine zAr (fun m s=>m<=n/\zjO G m p b s k=some r) (fun m s ⟨hm,hr⟩=>?_) n ⟨Nat.le_refl _,h⟩
  cases m with
  | zero=>cases hr
  | succ m=>
   have hr':yV G (zjO G m) (0::p) b s (zvW G p (fun s2=>zjO G m p b s2 k) k)=some r:=hr
   refine zcV hG (fun p' b' s' k' Q'=>ih m (by omega) p' b' s' k' Q') b _ _ _ _ hr' fun e s' he=>?_
   cases e <;> first
    | (rw [zjk] at he
       obtain⟨s2,hsub,h2⟩:=zlM hG he
       exact⟨m,s2,Nat.lt_succ_self m,⟨by omega,h2⟩,hsub⟩)
    | exact hk _ _ he
def kAt(G:Cfg):Nat->List Nat->List Nat->List Nat->Code->K->K
 | _,_,_,[],_,k=>k
 | F,fs,p,i::r,.seq a b,k=>match i with
  | 0=>kAt G F fs (0::p) r a (zvW G (1::p) (fun s2=>yV G (zjO G F) (1::p) b s2 k) k)
  | _=>kAt G F fs (1::p) r b k
 | F,fs,p,i::r,.cond _ a b,k=>match i with
  | 0=>kAt G F fs (0::p) r a k
  | _=>kAt G F fs (1::p) r b k
 | F,fs,p,_::r,.block id a,k=>kAt G F fs (0::p) r a (zEy id k)
 | _,f::fs,p,_::r,.loop b,k=>kAt G f fs (0::p) r b (zvW G p (fun s2=>zjO G f p b s2 k) k)
 | F,fs,p,_::r,.scope a,k=>kAt G F fs (0::p) r a (kScp k)
 | _,_,_,_,_,k=>k
def zDn:Nat->List Nat->Nat
 | F,[]=>F
 | _,f::fs=>zDn f fs
def zEs:Code->Code
 | .loop b=>b
 | c=>c
def zD1(G:Cfg)(c:Code)(k:K)(F:Nat)(fs:List Nat)(path:List Nat)(l:List (Nat×AV))(o:List (Nat×AObj)):Option Ans:=
 yV G (zjO G (zDn F fs)) path.reverse (at_ c path) (mkS l o) (kAt G F fs [] path c k)
def runR(G:Cfg)(c:Code)(k:K)(F:Nat)(fs:List Nat)(path:List Nat)(f:Nat)(l:List (Nat×AV))(o:List (Nat×AObj)):Option Ans:=
 zjO G f path.reverse (zEs (at_ c path)) (mkS l o) (kAt G F fs [] path c k)
def kP(P:Program)(rs:List ResultVar):K:=fun e s=>
 match e with
 | .normal=>match zbf P s rs with|some r=>some (r,[])|none=>none
 | .ret=>match zbf P s rs with|some r=>some (r,[])|none=>none
 | _=>none
def outs(s:S):List Nat->Option (List (Nat×AObj))
 | []=>some []
 | i::r=>match s.ob i with
  | some o=>match outs s r with
   | some l=>some ((i,o)::l)
   | none=>none
  | none=>none
def kRe(P:Program)(fx:List Nat)(c:Cut)(ids:List Nat)(rs:List ResultVar)(s:S):Option Ans:=
 match zaA fx c s with
 | some s'=>match zd5 P s' rs with
  | some r=>match outs s' ids with
   | some l=>some (r,l)
   | none=>none
  | none=>none
 | none=>none
def kR(P:Program)(fx:List Nat)(c:Cut)(ids:List Nat)(rs:List ResultVar):K:=fun e s=>
 match e with
 | .normal=>kRe P fx c ids rs s
 | .ret=>kRe P fx c ids rs s
 | _=>none
def zgB(G:Cfg)(fn:Func)(F:Nat)(args:List AV):Option Ans:=
 yV G (zjO G F) [] (zaV fn) (zmY args) (kP G.P fn.results.toList)
def zxP(G:Cfg)(fn:Func)(c:Cut)(ids:List Nat)(F:Nat)(args:List AV)(ib:List (Nat×AObj)):Option Ans:=
 yV G (zjO G F) [] (zaV fn) (zok args ib) (kR G.P G.fx c ids fn.results.toList)
theorem zC3{f:FuncId}{fn:Func}{args:List AV}{r:AV}(G:Cfg)(F:Nat)(hp:G.P=P)(henv:yQ P G.env)(henvR:zal P G.envR)(hmx:P.follows .mixedOrders=true)
 (hf:P.funcs[f]?=some fn) (hb:(fn.body.isSome,Nat.ble args.length fn.ntmps,Nat.beq G.nt fn.ntmps)=(true,true,true)) (hfx:G.fx=[])
 (h:(∃ M vs,ARels γ0 M args vs)->zgB G fn F args=some (r,[])):FnP P f args r:=by
 simp only[Prod.mk.injEq]at hb
 refine zfw hf (by rw[hb.1,hb.2.1]) fun M vs hvs C hC=>?_
 have hG:zbV G P C:=⟨hp,henv,henvR,⟨hC.nt.trans (Nat.eq_of_beq_eq_true hb.2.2).symm,by rw[hfx];exact hC.fx⟩,hmx⟩
 rw[zdJ]
 refine zcV hG (fun p b s k Q=>zgA hG F p b s k Q) _ _ _ _ _ (h ⟨M,vs,hvs⟩) fun e s' he=>?_
 subst hp
 cases e <;> first
  | cases he
  | (simp only [kP] at he
     split at he
     .rename_i r' hr;cases he;exact⟨s',Sub.refl s',hr⟩
     .cases he)
theorem zm7{s:S}:∀ {ids:List Nat} {l:List (Nat×AObj)},outs s ids=some l->zdp s l
 | [],l,h=>by cases h;rfl
 | i::r,l,h=>by
  simp only[outs]at h
  split at h
  .rename_i o ho
   split at h
   .rename_i l' hl
    cases h
    have:=zm7 hl
    unfold zdp at this ⊢
    simp only[List.map_cons,ho,this]
   .cases h
  .cases h
theorem zC2{f:FuncId}{fn:Func}{args:List AV}{ib:List (Nat×AObj)}{kept:List Nat}{r:AV}{os:List (Nat×AObj)}(G:Cfg)(c:Cut)(ids:List Nat)(F:Nat)(hp:G.P=P)(henv:yQ P G.env)(henvR:zal P G.envR)(hmx:P.follows .mixedOrders=true)
 (hf:P.funcs[f]?=some fn) (hb:(fn.body.isSome,Nat.ble args.length fn.ntmps,Nat.beq G.nt fn.ntmps)=(true,true,true)) (hfx:G.fx=kept)
 (h:(∃ γ M w vs,ARels γ M args vs/\ziZ γ M w (fun i=>ze i ib) (fun b=>b<w.heap.size))->zxP G fn c ids F args ib=some (r,os)):FnR P f args ib kept r os:=by
 simp only[Prod.mk.injEq]at hb
 refine zAH hf (by rw[hb.1,hb.2.1]) fun γ M w vs hvs hO C hC=>?_
 have hG:zbV G P C:=⟨hp,henv,henvR,⟨hC.nt.trans (Nat.eq_of_beq_eq_true hb.2.2).symm,by rw[hfx];exact hC.fx⟩,hmx⟩
 rw[zdJ]
 refine zcV hG (fun p b s k Q=>zgA hG F p b s k Q) _ _ _ _ _ (h ⟨γ,M,w,vs,hvs,hO⟩) fun e s' he=>?_
 subst hp
 have fin:kRe G.P G.fx c ids fn.results.toList s'=some (r,os)->∃ s2,Sub C s' s2/\zd5 G.P s2 fn.results.toList=some r/\zdp s2 os:=by
  intro he
  unfold kRe at he
  split at he
  .rename_i s2 hs2
   split at he
   .rename_i r' hr
    split at he
    .rename_i l hl
     cases he
     exact⟨s2,zlL hG.ctx hs2,hr,zm7 hl⟩
    .cases he
   .cases he
  .cases he
 cases e <;> first
  | cases he
  | exact fin he
end Go.Am
/-! Numbers: wrapping and bits of numbers that are not negative. -/
namespace Go.Am
open Go
theorem zbA{n:Int}(h0:0<=n)(h1:n<9223372036854775808):IntKind.i64.wrap n=n:=by
 have e:(2:Int)^IntKind.i64.bits=18446744073709551616:=rfl
 have e1:(2:Int)^(IntKind.i64.bits-1)=9223372036854775808:=rfl
 have e2:IntKind.i64.signed=true:=rfl
 simp only[IntKind.wrap,e,e1,e2,Bool.true_and,decide_eq_true_eq]
 split <;> omega
theorem znZ(n:Int):IntKind.u8.wrap n=n % 256:=by
 have e:(2:Int)^IntKind.u8.bits=256:=rfl
 have e2:IntKind.u8.signed=false:=rfl
 simp only[IntKind.wrap,e,e2,Bool.false_and,Bool.false_eq_true,if_false]
theorem zB2{a b:Nat}(ha:a<9223372036854775808)(hb:b<9223372036854775808):zJ .and .i64 (a:Int) (b:Int)=((a&&& b:Nat):Int):=by
 have h1:(BitVec.ofInt IntKind.i64.bits (a:Int)&&& BitVec.ofInt IntKind.i64.bits (b:Int)).toNat=a&&& b:=by
  rw[BitVec.toNat_and,BitVec.ofInt_natCast,BitVec.ofInt_natCast,BitVec.toNat_ofNat,BitVec.toNat_ofNat]
  have e:2^IntKind.i64.bits=18446744073709551616:=rfl
  rw[e,Nat.mod_eq_of_lt (by omega),Nat.mod_eq_of_lt (by omega)]
 show IntKind.i64.wrap (((BitVec.ofInt IntKind.i64.bits (a:Int)&&& BitVec.ofInt IntKind.i64.bits (b:Int)).toNat:Nat):Int)=_
 rw[h1]
 have:a&&& b<=a:=Nat.and_le_left
 exact zbA (by omega) (by omega)
theorem zoK{a b:Nat}(ha:a<9223372036854775808)(hb:b<9223372036854775808):zJ .or .i64 (a:Int) (b:Int)=((a||| b:Nat):Int):=by
 have h1:(BitVec.ofInt IntKind.i64.bits (a:Int)||| BitVec.ofInt IntKind.i64.bits (b:Int)).toNat=a||| b:=by
  rw[BitVec.toNat_or,BitVec.ofInt_natCast,BitVec.ofInt_natCast,BitVec.toNat_ofNat,BitVec.toNat_ofNat]
  have e:2^IntKind.i64.bits=18446744073709551616:=rfl
  rw[e,Nat.mod_eq_of_lt (by omega),Nat.mod_eq_of_lt (by omega)]
 show IntKind.i64.wrap (((BitVec.ofInt IntKind.i64.bits (a:Int)||| BitVec.ofInt IntKind.i64.bits (b:Int)).toNat:Nat):Int)=_
 rw[h1]
 have:a||| b<2^63:=Nat.or_lt_two_pow (by omega) (by omega)
 exact zbA (by omega) (by omega)
theorem zou(a b k:Nat)(hb:b<2^k):(a*2^k)||| b=a*2^k+b:=by
 rw[Nat.mul_comm,Nat.two_pow_add_eq_or_of_lt hb]
theorem zCR(a k:Nat):a&&& (2^k-1)=a % 2^k:=Nat.and_two_pow_sub_one_eq_mod a k
end Go.Am
/-! What holds by itself may be struck out of a text. -/
namespace Go.Am
open Go Go.RowKit
theorem zM{p:Prop}{x y:Option Ans}(h:x=y):need p x=need p y:=by rw[h]
theorem yN{b:Bool}{x x' y y':Option Ans}(h:x=x')(k:y=y'):cond b x y=cond b x' y':=by rw[h,k]
theorem zj{p:Prop}{x y:Option Ans}(hp:p)(h:x=y):need p x=y:=by rw[zk9 hp,h]
theorem nI(p:Prop){x y:Option Ans}(h:x=y):need (p->p) x=y:=zj id h
theorem nN(b:Bool){x y:Option Ans}(h:x=y):need (b=false->(!b)=true) x=y:=zj (fun q=>zk7 q) h
theorem ziu{p:Prop}{x r:Option Ans}(k:x=r)(h:p:=by first|omega|(unfold zQ;omega)|(simp only[List.length_cons,List.length_nil];omega)|(simp;omega)|simp):need p x=r:=zk h k
theorem zCA{b:Bool}{x y r:Option Ans}(k:x=r)(h:b=true:=by first|omega|(unfold zQ;omega)|(simp only[List.length_cons,List.length_nil];omega)|(simp;omega)|simp):cond b x y=r:=yL h k
theorem zCB{b:Bool}{x y r:Option Ans}(k:y=r)(h:b=false:=by first|omega|(unfold zQ;omega)|(simp only[List.length_cons,List.length_nil];omega)|(simp;omega)|simp):cond b x y=r:=yM h k
end Go.Am
