/-
  Lifted functions, and facts about them.
-/
import Derived.Test.YtampckbjinodgaaGreatDoorRows
import Derived.Test.YtampckbjinodgaaGreatDoorC01
import Derived.Test.YtampckbjinodgaaGreatDoorAmC
import Derived.Test.YtampckbjinodgaaGreatDoorC10
set_option linter.unusedVariables false
noncomputable section
namespace Go.Proofs.YtampckbjinodgaaGreatDoor
open Go Go.Am
def zgk(p:yd)(t:zr):Bool:=
 if t.1=11 then inS p.2.2 t.2.2.2.1||p.2.1.any (tP t) else if t.1=12 then p.2.1.any (hP t) else if t.1=13 then inS p.2.2 t.2.2.2.1 else zgl p t
def LqG(x y:AV):Prop:=∀ (γ:Nat->Option G) (M:Mem) (v:Value),zp γ M x v->zp γ M y v
def zye:List AV->List AV->Prop
 | [],[]=>True
 | x::xs,y::ys=>LqG x y/\zye xs ys
 | _,_=>False
theorem LqG.refl(x:AV):LqG x x:=fun _ _ _ h=>h
theorem LqG.p{x y:PV}(h:Lq (.p x) (.p y)):LqG (.p x) (.p y):=fun _ M v hv=>.p _ _ (h M v (.p _ _ hv.p_inv)).p_inv
theorem zye.get:∀ {xs ys:List AV},zye xs ys->xs.length=ys.length/\∀ i,i<xs.length->LqG (xs.getD i .any) (ys.getD i .any)
 | [],[],_=>⟨rfl,fun i hi=>absurd hi (by simp)⟩
 | x :: xs, y :: ys, h => ⟨by simp [h.2.get.1], fun i hi => by
     cases i with
     | zero=>exact h.1
     | succ i=>exact h.2.get.2 i (by simpa using hi)⟩
theorem LqG.clo{fn:Fn}{xs ys:List AV}(h:zye xs ys):LqG (.clo fn [] xs) (.clo fn [] ys):=by
 intro γ M v hv
 cases hv with|clo _ _ _ vf vc hf hc h1 h2=>
 obtain⟨hl,hg⟩:=h.get
 exact .clo _ _ _ _ _ hf (by rw[hc,hl]) h1 fun i hi=>hg i (by rw[hl];exact hi) _ _ _ (h2 i (by rw[hl];exact hi))
theorem zye.args{γ:Nat->Option G}{M:Mem}:∀ {xs ys:List AV} {vs:List Value},zye xs ys->zB γ M xs vs->zB γ M ys vs
 | [],[],_,_,h=>h
 | x::xs,y::ys,_,q,h=>by
  cases h with|cons h1 h2=>exact .cons (q.1 _ _ _ h1) (q.2.args h2)
theorem FnR.lq{P:Program}{f:FuncId}{xs ys:List AV}{ib:List (Nat×AObj)}{kept:List Nat}{r:AV}{zZ:List (Nat×AObj)}(h:zye xs ys)(k:FnR P f ys ib kept r zZ):FnR P f xs ib kept r zZ:=
 fun γ M w vs hO hn hM hv=>k γ M w vs hO hn hM (h.args hv)
theorem zg7{a b:AObj}{id:Nat}:zm id [(70000,a)]≠none↔zm id [(70000,b)]≠none:=by
 show(match Nat.beq id 70000 with|true=>some a|false=>none)≠none↔(match Nat.beq id 70000 with|true=>some b|false=>none)≠none
 cases Nat.beq id 70000 <;> simp
theorem FnR.cells1{P:Program}{f:FuncId}{args:List AV}{x y:AV}{kept:List Nat}{r:AV}{zZ:List (Nat×AObj)}(hq:LqG x y)(k:FnR P f args [(70000,.cells [y])] kept r zZ):FnR P f args [(70000,.cells [x])] kept r zZ:=by
 intro γ M w vs hO hn hM hv
 have hH:∀ b,Go.Am.Handed γ [(70000,.cells [y])] b↔Go.Am.Handed γ [(70000,.cells [x])] b:=fun b=>
  ⟨fun⟨id,g,h1,h2⟩=>⟨id,g,zg7.1 h1,h2⟩,fun⟨id,g,h1,h2⟩=>⟨id,g,zg7.1 h1,h2⟩⟩
 have hO':zhW γ M w (fun i=>zm i [(70000,.cells [y])]) (fun b=>b<w.heap.size):=by
  refine⟨fun id o ho=>?_,fun i j g g' b hi hj=>hO.sep i j g g' b (zg7.1 hi) (zg7.1 hj),fun i g b hi=>hO.lo i g b (zg7.1 hi)⟩
  have ho:(match Nat.beq id 70000 with|true=>some (AObj.cells [y])|false=>none)=some o:=ho
  cases hb:Nat.beq id 70000 with
  | false=>rw[hb]at ho;cases ho
  | true=>
   rw[hb]at ho;cases ho
   obtain rfl:=Nat.eq_of_beq_eq_true hb
   obtain⟨b,vs',e,h1,h2,h3,h4,h5⟩:=hO.ob 70000 (.cells [x]) rfl
   refine⟨b,vs',e,h1,h2,h3,fun j hj=>?_,h5⟩
   have hj0:j=0:=by simpa using hj
   subst hj0
   exact⟨hq _ _ _ (h4 0 (by simp)).1,(h4 0 (by simp)).2⟩
 have hn':∀ i,zm i [(70000,AObj.cells [y])]=none->γ i=none:=fun i hi=>hn i (by
  by_cases h:zm i [(70000,AObj.cells [x])]=none
  .exact h
  .exact absurd hi (zg7.1 h))
 refine(k γ M w vs hO' hn' ⟨hM.toWOk,fun b hb=>hM.hand b ((hH b).1 hb)⟩ hv).mono fun e w' ⟨v,γ',M',h1,h2,h3,h4,h5,h6,h7,h8⟩=>⟨v,γ',M',h1,h2,h3,h4,h5,⟨h6.ob,h6.sep,fun id g b a1 a2 a3=>?_⟩,fun b hb hh=>h7 b hb fun hx=>hh ((hH b).1 hx),h8⟩
 have:=h6.lo id g b a1 a2 a3
 exact⟨this.1.imp (fun q=>q) (fun q=>(hH b).1 q),this.2⟩
abbrev dT:zr:=((0:Int),((0:Int),([],([],([],[])))))
def zbY(p:yd)(t:zr):Bool:=if t.1=6 then p.1.2.2.2.2.1.any (t.2.2.2.1==·) else zgk p t
abbrev zfk(p:yd)(t:zr):Prop:=p.1.2.2.2.2.2.1.length<=1000000/\p.1.2.2.2.2.1.length<=1000000/\t.2.2.2.2.1.length<=1000000/\p.2.2.length<=1000000/\t.2.2.2.1.length<=1000000/\p.2.1.length<=1000000/\∀ g ∈ p.2.1,fok t g
def hGF:Nat->yd->List zr->Int->Bool
 | 0,_,_,_=>false
 | k+1,p,f,a=>
  if(f.getD a.toNat dT).1=1 then !((f.getD a.toNat dT).2.2.2.2.2.any fun x=>!(hGF k p f x))
  else if(f.getD a.toNat dT).1=2 then(f.getD a.toNat dT).2.2.2.2.2.any fun x=>hGF k p f x
  else if(f.getD a.toNat dT).1=3 then !((f.getD a.toNat dT).2.2.2.2.2.any fun x=>hGF k p f x)
  else zbY p (f.getD a.toNat dT)
def ziM:Nat->yd->List zr->Int->Prop
 | 0,_,_,_=>False
 | k+1,p,f,a=>(0<=a/\a<(f.length:Int))/\zfk p (f.getD a.toNat dT)/\
  ((f.getD a.toNat dT).1=1\/(f.getD a.toNat dT).1=2\/(f.getD a.toNat dT).1=3->(f.getD a.toNat dT).2.2.2.2.2.length<=1000000/\∀ x ∈ (f.getD a.toNat dT).2.2.2.2.2,ziM k p f x)
def kdP(k:Nat)(p:yd)(f:List zr)(x:Int):Bool:=hGF k p f x
def kdN(k:Nat)(p:yd)(f:List zr)(x:Int):Bool:=!(hGF k p f x)
abbrev zeo(k:Nat)(p:yd)(f:List zr)(l:List Int):Prop:=l.length<=1000000/\∀ x ∈ l,ziM k p f x
def zoP(k:Nat):List AV->Option (AV×Option Prop)
 | [.p (.box 10 f),.p R,.p (.int .i64 a)]=>match zT zD (zK f 10 0),zA zu R with
  | some p,some t=>some (.p (.bool (hGF k p t a)),some (ziM k p t a))
  | _,_=>none
 | _=>none
def zQ1(k:Nat):=mkG [(23,zoP k)] [] 9 [] [] []
def zRh(k F:Nat)(x:Int)(p:yd)(f:List zr):=zF (zQ1 k) Tryz.f35 F [pI x,.p (.box 1 (cell (.box zD) p)),.p (.box 1 (cell (.list zu) f))]
theorem zMF(k:Nat)(F x p f):zRh k F x p f=ze (ziM k p f x) (some (.p (.bool (hGF k p f x)),[])):=by kernel_rfl
theorem zPk(k:Nat)(hrec:zn Tryz.prog 23 (zoP k))(F x p f r):IsP 35 (zRh k F x p f) [.p (.int .i64 x),.p (.box 1 (cell (.box zD) p)),.p (.box 1 (cell (.list zu) f))] r:=zG (zQ1 k) rfl ⟨hrec.any,trivial⟩
def zdW(k:Nat):List AV->Option (AV×Option Prop)
 | [.p (.int .i64 x),.p (.box 1 f),.p (.box 1 g)]=>match zT (.box zD) (zK f 1 0),zT (.list zu) (zK g 1 0)with
  | some p,some t=>some (.p (.bool (hGF k p t x)),some (ziM k p t x))
  | _,_=>none
 | _=>none
theorem zOt(k:Nat)(hrec:zn Tryz.prog 23 (zoP k)):zn Tryz.prog 35 (zdW k):=by
 intro zs r ok he hok
 unfold zdW at he
 split at he
 .rename_i x f g
  split at he
  .rename_i p t hp ht
   cases he
   exact⟨by kernel_rfl,FnP.lq (ys:=[.p (.int .i64 x),.p (.box 1 (cell (.box zD) p)),.p (.box 1 (cell (.list zu) t))]) ⟨Lq.refl _,Lq.box (c:=.box zD) hp,Lq.box (c:=.list zu) ht,trivial⟩
    (zPk k hrec 0 x p t _ fun _=>by rw[zMF];exact zd hok rfl)⟩
  .cases he
 .cases he
def zQ0(k:Nat):=mkG [(35,zdW k)] [] 8 [70000] [] []
def zRg(k F:Nat)(x:Int)(p:yd)(f:List zr):=zam (zQ0 k) Tryz.f37 ⟨[3],[⟨.fix 70000,70000,.cells []⟩]⟩ [70000] F [pI x,.ref 70000 0] [(70000,.cells [.clo (.func 35) [] [.p (.box 1 (cell (.box zD) p)),.p (.box 1 (cell (.list zu) f))]])]
theorem zME(k:Nat)(F x p f):zRg k F x p f=ze (ziM k p f x) (some (.p (.bool (!(hGF k p f x))),[(70000,.cells [.clo (.func 35) [] [.p (.box 1 (cell (.box zD) p)),.p (.box 1 (cell (.list zu) f))]])])):=by kernel_rfl
theorem zPj(k:Nat)(hrec:zn Tryz.prog 35 (zdW k))(F x p f r os):IsR 37 (zRg k F x p f) [.p (.int .i64 x),.ref 70000 0] [(70000,.cells [.clo (.func 35) [] [.p (.box 1 (cell (.box zD) p)),.p (.box 1 (cell (.list zu) f))]])] [70000] r os:=zb9 (zQ0 k) ⟨[3],[⟨.fix 70000,70000,.cells []⟩]⟩ [70000] rfl ⟨hrec.any,trivial⟩
abbrev k35(f g:Nat->PV):AV:=.clo (.func 35) [] [.p (.box 1 f),.p (.box 1 g)]
abbrev zxs(p:yd)(t:List zr):AV:=.clo (.func 35) [] [.p (.box 1 (cell (.box zD) p)),.p (.box 1 (cell (.list zu) t))]
theorem zpy{f g:Nat->PV}{p:yd}{t:List zr}(hp:zT (.box zD) (zK f 1 0)=some p)(ht:zT (.list zu) (zK g 1 0)=some t):LqG (k35 f g) (zxs p t):=
 LqG.clo ⟨LqG.p (Lq.box (c:=.box zD) hp),LqG.p (Lq.box (c:=.list zu) ht),trivial⟩
def zjb(k:Nat):yM:=⟨[true,false],fun args ib=>match args,ib with
 | [.p (.int .i64 x),.ref 70000 0],[(70000,.cells [.clo (.func 35) [] [.p (.box 1 f),.p (.box 1 g)]])]=>match zT (.box zD) (zK f 1 0),zT (.list zu) (zK g 1 0)with
  | some p,some t=>some (([70000],.p (.bool (!(hGF k p t x)))),([(70000,.cells [zxs p t])],some (ziM k p t x)))
  | _,_=>none
 | _,_=>none⟩
theorem zOs(k:Nat)(hrec:zn Tryz.prog 35 (zdW k)):zS Tryz.prog 37 (zjb k):=by
 intro args ib kept r zZ ok he hok
 simp only[zjb]at he
 split at he
 .rename_i x f g
  split at he
  .rename_i p t hp ht
   cases he
   exact⟨by kernel_rfl,FnR.cells1 (zpy hp ht) (zPj k hrec 0 x p t _ _ fun _=>by rw[zME];exact zd hok rfl)⟩
  .cases he
 .cases he
def zTW:Code:=yw Tryz.f58
def zLD(k:Nat):=mkG [(35,zdW k)] [] 19 [] [([0,1,0,1],⟨[0,1,7,8],[]⟩)] []
def zTF:K:=kR Tryz.prog [] ⟨[4],[]⟩ [] Tryz.f58.results.toList
def zhO(k F f1:Nat)(l:List Int)(p:yd)(f:List zr)(vi1 vi2:Int):=zcI (zLD k) zTW zTF F [] [1,0,1,0] f1 [(0,pL 1 (.int .i64) l),(1,.clo (.func 35) [] [.p (.box 1 (cell (.box zD) p)),.p (.box 1 (cell (.list zu) f))]),(7,pI vi1),(8,pI vi2)] []
def zMR(k F:Nat)(l:List Int)(p:yd)(f:List zr):=zam (zLD k) Tryz.f58 ⟨[4],[]⟩ [] F [pL 1 (.int .i64) l,.clo (.func 35) [] [.p (.box 1 (cell (.box zD) p)),.p (.box 1 (cell (.list zu) f))]] []
theorem zrg(k:Nat)(F f1 l p f vi1 vi2):letI A:=l.getD vi2.toNat (0:Int);zhO k F (f1+1) l p f vi1 vi2=cond (decide (vi2<vi1)) (ze (0<=vi2/\vi2<(l.length:Int)) (ze (ziM k p f A) (cond (hGF k p f A) (some (.p (.int .i64 vi2),[])) (ze (zh (vi2+1)) (zhO k F f1 l p f vi1 (vi2+1)))))) (some (.p (.int .i64 (-1:Int)),[])):=by kernel_rfl
theorem zMQ(k:Nat)(F l p f):zMR k F l p f=zhO k F F l p f (l.length:Int) 0:=by kernel_rfl
theorem zPq(k:Nat)(hrec:zn Tryz.prog 35 (zdW k))(F l p f r os):IsR 58 (zMR k F l p f) [.p (.list 1 (.dat (.int .i64) l)),.clo (.func 35) [] [.p (.box 1 (cell (.box zD) p)),.p (.box 1 (cell (.list zu) f))]] [] [] r os:=zb9 (zLD k) ⟨[4],[]⟩ [] rfl ⟨hrec.any,trivial⟩
def zTV:Code:=yw Tryz.f58
def zLC(k:Nat):=mkG [] [(37,zjb k)] 19 [70000] [([0,1,0,1],⟨[0,1,7,8],[⟨.fix 70000,70000,.cells []⟩]⟩)] [([0,1,0,0,1,1,0,0,1,0,1],[5])]
def zTE:K:=kR Tryz.prog [70000] ⟨[4],[⟨.fix 70000,70000,.cells []⟩]⟩ [70000] Tryz.f58.results.toList
def zhN(k F f1:Nat)(l:List Int)(vi1 vi2:Int)(vp3:yd)(vp4:List zr):=zcI (zLC k) zTV zTE F [] [1,0,1,0] f1 [(0,pL 1 (.int .i64) l),(1,.clo (.func 37) [] [.ref 70000 0]),(7,pI vi1),(8,pI vi2)] [(70000,.cells [.clo (.func 35) [] [.p (.box 1 (cell (.box zD) vp3)),.p (.box 1 (cell (.list zu) vp4))]])]
def zMP(k F:Nat)(l:List Int)(p:yd)(f:List zr):=zam (zLC k) Tryz.f58 ⟨[4],[⟨.fix 70000,70000,.cells []⟩]⟩ [70000] F [pL 1 (.int .i64) l,.clo (.func 37) [] [.ref 70000 0]] [(70000,.cells [.clo (.func 35) [] [.p (.box 1 (cell (.box zD) p)),.p (.box 1 (cell (.list zu) f))]])]
theorem zrf(k:Nat)(F f1 l vi1 vi2 vp3 vp4):letI A:=.box 1 (cell (.box zD) vp3);letI B:=l.getD vi2.toNat (0:Int);zhN k F (f1+1) l vi1 vi2 vp3 vp4=cond (decide (vi2<vi1)) (ze (0<=vi2/\vi2<(l.length:Int)) (ze (ziM k vp3 vp4 B) (cond (!(hGF k vp3 vp4 B)) (some (.p (.int .i64 vi2),[(70000,.cells [.clo (.func 35) [] [.p A,.p (.box 1 (cell (.list zu) vp4))]])])) (ze (zh (vi2+1)) (zhN k F f1 l vi1 (vi2+1) vp3 vp4))))) (some (.p (.int .i64 (-1:Int)),[(70000,.cells [.clo (.func 35) [] [.p A,.p (.box 1 (cell (.list zu) vp4))]])])):=by kernel_rfl
theorem zMO(k:Nat)(F l p f):zMP k F l p f=zhN k F F l (l.length:Int) 0 p f:=by kernel_rfl
theorem zPp(k:Nat)(hrec:zS Tryz.prog 37 (zjb k))(F l p f r os):IsR 58 (zMP k F l p f) [.p (.list 1 (.dat (.int .i64) l)),.clo (.func 37) [] [.ref 70000 0]] [(70000,.cells [.clo (.func 35) [] [.p (.box 1 (cell (.box zD) p)),.p (.box 1 (cell (.list zu) f))]])] [70000] r os:=zb9 (zLC k) ⟨[4],[⟨.fix 70000,70000,.cells []⟩]⟩ [70000] rfl trivial (hr:=⟨hrec,trivial⟩)
abbrev zbu:Ec:=.int .i64
theorem zxx{l:List Int}{i:Nat}(h:i<l.length){P:Int->Prop}(hp:∀ x ∈ l,P x):P (l.getD i 0):=hp _ (yi h 0)
theorem zON(k:Nat)(l:List Int)(p:yd)(f:List zr)(h:zeo k p f l):zMR k (l.length+1) l p f=some (.p (.int .i64 (yC (kdP k p f) l)),[]):=by
 rw[zMQ]
 refine zfm (0:Int) l (kdP k p f) (fun f' i=>zhO k (l.length+1) f' l p f (l.length:Int) i) (fun f' i hi=>?_) (fun f'=>?_) h.1
 .show zhO k (l.length+1) (f'+1) l p f (l.length:Int) (i:Int)=_
  rw[zrg]
  refine zi (by simpa using hi) (zd ⟨by omega,by simpa using hi⟩ (zd (by rw[Int.toNat_natCast];exact zxx hi h.2) ?_))
  rw[Int.toNat_natCast]
  show cond (kdP k p f (l.getD i 0)) _ _=_
  cases kdP k p f (l.getD i 0)with
  | true=>rfl
  | false=>exact zd (by have:=h.1;unfold zh;omega) rfl
 .show zhO k (l.length+1) (f'+1) l p f (l.length:Int) (l.length:Int)=_
  rw[zrg]
  exact zg (by simp) rfl
theorem zsV{α:Type}(d:α)(l:List α)(p:α->Bool)(o:List (Nat×AObj))(B:Nat->Int->Option Ans)
 (h1:∀ (f i:Nat),i<l.length->B (f+1) i=cond (p (l.getD i d)) (some (.p (.int .i64 i),o)) (B f ((i:Int)+1)))
 (h0:∀ f:Nat,B (f+1) l.length=some (.p (.int .i64 (-1)),o)):
 ∀ (r:List α) (i:Nat),l.drop i=r->i+r.length=l.length->B (r.length+1) i=some (.p (.int .i64 (if yC p r=-1 then -1 else i+yC p r)),o)
 | [],i,_,hl=>by
  have:i=l.length:=by simpa using hl
  subst this
  rw[h0];rfl
 | x::r,i,hd,hl=>by
  have hi:i<l.length:=by simp at hl;omega
  have hx:l.getD i d=x:=by
   rw[List.getD_eq_getElem?_getD,<-List.head?_drop,hd];rfl
  rw[List.length_cons,h1 _ _ hi,hx,yC]
  by_cases hp:p x=true
  .rw [hp,if_pos rfl];simp
  .have hp:p x=false:=by simpa using hp
   rw[hp]
   have hr:=zsV d l p o B h1 h0 r (i+1) (by rw[<-List.tail_drop,hd];rfl) (by simp at hl;omega)
   have hg:=zjx p r
   show B (r.length+1) ((i:Int)+1)=_
   rw[show((i:Int)+1)=((i+1:Nat):Int) by omega,hr]
   simp only[Bool.false_eq_true,if_false]
   by_cases hm:yC p r=-1
   .rw [if_pos hm,if_pos hm,if_pos rfl]
   .rw [if_neg hm,if_neg hm,if_neg (by omega)]
    congr 4;omega
theorem zOM(k:Nat)(l:List Int)(p:yd)(f:List zr)(h:zeo k p f l):zMP k (l.length+1) l p f=some (.p (.int .i64 (yC (kdN k p f) l)),[(70000,.cells [zxs p f])]):=by
 rw[zMO]
 have hh:=zsV (0:Int) l (kdN k p f) [(70000,.cells [zxs p f])] (fun f' i=>zhN k (l.length+1) f' l (l.length:Int) i p f) (fun f' i hi=>?_) (fun f'=>?_) l 0 rfl (by simp)
 .have e:(if yC (kdN k p f) l=-1 then(-1:Int) else((0:Nat):Int)+yC (kdN k p f) l)=yC (kdN k p f) l:=by split <;> omega
  rw[e]at hh
  exact hh
 .show zhN k (l.length+1) (f'+1) l (l.length:Int) (i:Int) p f=_
  rw[zrf]
  refine zi (by simpa using hi) (zd ⟨by omega,by simpa using hi⟩ (zd (by rw[Int.toNat_natCast];exact zxx hi h.2) ?_))
  rw[Int.toNat_natCast]
  show cond (kdN k p f (l.getD i 0)) _ _=_
  cases kdN k p f (l.getD i 0)with
  | true=>rfl
  | false=>exact zd (by have:=h.1;unfold zh;omega) rfl
 .show zhN k (l.length+1) (f'+1) l (l.length:Int) (l.length:Int) p f=_
  rw[zrf]
  exact zg (by simp) rfl
def zfb(k:Nat):yM:=⟨[true,false],fun args ib=>match args,ib with
 | [.p l,.clo (.func 35) [] [.p (.box 1 f),.p (.box 1 g)]],[]=>match zA zbu l,zT (.box zD) (zK f 1 0),zT (.list zu) (zK g 1 0)with
  | some l,some p,some t=>some (([],.p (.int .i64 (yC (kdP k p t) l))),([],some (zeo k p t l)))
  | _,_,_=>none
 | [.p l,.clo (.func 37) [] [.ref 70000 0]],[(70000,.cells [.clo (.func 35) [] [.p (.box 1 f),.p (.box 1 g)]])]=>match zA zbu l,zT (.box zD) (zK f 1 0),zT (.list zu) (zK g 1 0)with
  | some l,some p,some t=>some (([70000],.p (.int .i64 (yC (kdN k p t) l))),([(70000,.cells [zxs p t])],some (zeo k p t l)))
  | _,_,_=>none
 | _,_=>none⟩
theorem zOw(k:Nat)(h1:zn Tryz.prog 35 (zdW k))(h2:zS Tryz.prog 37 (zjb k)):zS Tryz.prog 58 (zfb k):=by
 intro args ib kept r zZ ok he hok
 simp only[zfb]at he
 split at he
 .rename_i l' f g
  split at he
  .rename_i l p t hl hp ht
   cases he
   exact⟨by kernel_rfl,FnR.lq (ys:=[.p (.list 1 (.dat zbu l)),zxs p t]) ⟨LqG.p (Lq.list (a:=zbu) hl),zpy hp ht,trivial⟩ (zPq k h1 (l.length+1) l p t _ _ fun _=>zON k l p t hok)⟩
  .cases he
 .rename_i l' f g
  split at he
  .rename_i l p t hl hp ht
   cases he
   exact⟨by kernel_rfl,FnR.lq (ys:=[.p (.list 1 (.dat zbu l)),.clo (.func 37) [] [.ref 70000 0]]) ⟨LqG.p (Lq.list (a:=zbu) hl),LqG.refl _,trivial⟩ (FnR.cells1 (zpy hp ht) (zPp k h2 (l.length+1) l p t _ _ fun _=>zOM k l p t hok))⟩
  .cases he
 .cases he
def zQ7(k:Nat):=mkG [] [(58,zfb k)] 9 [] [] [([0,1],[2])]
def zRk(k F:Nat)(l:List Int)(p:yd)(f:List zr):=zam (zQ7 k) Tryz.f36 ⟨[4],[]⟩ [] F [pL 1 (.int .i64) l,.clo (.func 35) [] [.p (.box 1 (cell (.box zD) p)),.p (.box 1 (cell (.list zu) f))]] []
theorem zM6(k:Nat)(F l p f):zRk k F l p f=ze (zeo k p f l) (some (.p (.bool (decide ((yC (kdP k p f) l)>=0))),[])):=by kernel_rfl
theorem zPx(k:Nat)(hrec:zS Tryz.prog 58 (zfb k))(F l p f r os):IsR 36 (zRk k F l p f) [.p (.list 1 (.dat (.int .i64) l)),.clo (.func 35) [] [.p (.box 1 (cell (.box zD) p)),.p (.box 1 (cell (.list zu) f))]] [] [] r os:=zb9 (zQ7 k) ⟨[4],[]⟩ [] rfl trivial (hr:=⟨hrec,trivial⟩)
def zQ6(k:Nat):=mkG [] [(58,zfb k)] 9 [70000] [] [([0,1],[2])]
def zRj(k F:Nat)(l:List Int)(p:yd)(f:List zr):=zam (zQ6 k) Tryz.f36 ⟨[4],[⟨.fix 70000,70000,.cells []⟩]⟩ [70000] F [pL 1 (.int .i64) l,.clo (.func 37) [] [.ref 70000 0]] [(70000,.cells [.clo (.func 35) [] [.p (.box 1 (cell (.box zD) p)),.p (.box 1 (cell (.list zu) f))]])]
theorem zM5(k:Nat)(F l p f):zRj k F l p f=ze (zeo k p f l) (some (.p (.bool (decide ((yC (kdN k p f) l)>=0))),[(70000,.cells [.clo (.func 35) [] [.p (.box 1 (cell (.box zD) p)),.p (.box 1 (cell (.list zu) f))]])])):=by kernel_rfl
theorem zPw(k:Nat)(hrec:zS Tryz.prog 58 (zfb k))(F l p f r os):IsR 36 (zRj k F l p f) [.p (.list 1 (.dat (.int .i64) l)),.clo (.func 37) [] [.ref 70000 0]] [(70000,.cells [.clo (.func 35) [] [.p (.box 1 (cell (.box zD) p)),.p (.box 1 (cell (.list zu) f))]])] [70000] r os:=zb9 (zQ6 k) ⟨[4],[⟨.fix 70000,70000,.cells []⟩]⟩ [70000] rfl trivial (hr:=⟨hrec,trivial⟩)
def znP(k:Nat):yM:=⟨[true,false],fun args ib=>match args,ib with
 | [.p l,.clo (.func 35) [] [.p (.box 1 f),.p (.box 1 g)]],[]=>match zA zbu l,zT (.box zD) (zK f 1 0),zT (.list zu) (zK g 1 0)with
  | some l,some p,some t=>some (([],.p (.bool (l.any (kdP k p t)))),([],some (zeo k p t l)))
  | _,_,_=>none
 | [.p l,.clo (.func 37) [] [.ref 70000 0]],[(70000,.cells [.clo (.func 35) [] [.p (.box 1 f),.p (.box 1 g)]])]=>match zA zbu l,zT (.box zD) (zK f 1 0),zT (.list zu) (zK g 1 0)with
  | some l,some p,some t=>some (([70000],.p (.bool (l.any (kdN k p t)))),([(70000,.cells [zxs p t])],some (zeo k p t l)))
  | _,_,_=>none
 | _,_=>none⟩
theorem zOB(k:Nat)(hrec:zS Tryz.prog 58 (zfb k)):zS Tryz.prog 36 (znP k):=by
 intro args ib kept r zZ ok he hok
 simp only[znP]at he
 split at he
 .rename_i l' f g
  split at he
  .rename_i l p t hl hp ht
   cases he
   exact⟨by kernel_rfl,FnR.lq (ys:=[.p (.list 1 (.dat zbu l)),zxs p t]) ⟨LqG.p (Lq.list (a:=zbu) hl),zpy hp ht,trivial⟩ (zPx k hrec 0 l p t _ _ fun _=>by rw[zM6,<-zbi];exact zd hok rfl)⟩
  .cases he
 .rename_i l' f g
  split at he
  .rename_i l p t hl hp ht
   cases he
   exact⟨by kernel_rfl,FnR.lq (ys:=[.p (.list 1 (.dat zbu l)),.clo (.func 37) [] [.ref 70000 0]]) ⟨LqG.p (Lq.list (a:=zbu) hl),LqG.refl _,trivial⟩ (FnR.cells1 (zpy hp ht) (zPw k hrec 0 l p t _ _ fun _=>by rw[zM5,<-zbi];exact zd hok rfl))⟩
  .cases he
 .cases he
def zSU:=mkG [] [] 19 [] [([0,1,0,1],⟨[0,1,7,8],[]⟩)] []
def zmc(F f1:Nat)(l:List (List UInt8))(v:List UInt8)(vi1 vi2:Int):=zH zSU Tryz.f61 F [] [1,0,1,0] f1 [(0,pL 1 .str l),(1,pS v),(7,pI vi1),(8,pI vi2)] []
def zSY(F:Nat)(l:List (List UInt8))(v:List UInt8):=zF zSU Tryz.f61 F [pL 1 .str l,pS v]
theorem zts(F f1 l v vi1 vi2):zmc F (f1+1) l v vi1 vi2=cond (decide (vi2<vi1)) (ze (0<=vi2/\vi2<(l.length:Int)) (cond (v==(l.getD vi2.toNat [])) (some (.p (.int .i64 vi2),[])) (ze (zh (vi2+1)) (zmc F f1 l v vi1 (vi2+1))))) (some (.p (.int .i64 (-1:Int)),[])):=by kernel_rfl
theorem zP5(F l v):zSY F l v=zmc F F l v (l.length:Int) 0:=by kernel_rfl
theorem zSg(F l v r):IsP 61 (zSY F l v) [.p (.list 1 (.dat .str l)),.p (.str v)] r:=zG zSU rfl trivial
theorem zRn(l:List (List UInt8))(v:List UInt8)(hl:l.length<=1000000):zSY (l.length+1) l v=some (.p (.int .i64 (yC (v==·) l)),[]):=by
 rw[zP5]
 refine zfm ([]:List UInt8) l (v==·) (fun f i=>zmc (l.length+1) f l v (l.length:Int) i) (fun f i hi=>?_) (fun f=>?_) hl
 .show zmc (l.length+1) (f+1) l v (l.length:Int) (i:Int)=_
  rw[zts]
  refine zi (by simpa using hi) (zd ⟨by omega,by simpa using hi⟩ ?_)
  rw[Int.toNat_natCast]
  cases(v==l.getD i [])with
  | true=>rfl
  | false=>exact zd (by unfold zh;omega) rfl
 .show zmc (l.length+1) (f+1) l v (l.length:Int) (l.length:Int)=_
  rw[zts]
  exact zg (by simp) rfl
def zzQ:List AV->Option (AV×Option Prop)
 | [.p (.list 1 (.dat .str l)),.p (.str v)]=>some (.p (.int .i64 (yC (v==·) l)),some (l.length<=1000000))
 | _=>none
theorem zRK:zn Tryz.prog 61 zzQ:=by
 intro zs r ok he hok
 unfold zzQ at he
 split at he
 .cases he;exact⟨by kernel_rfl,zSg (_) _ _ _ fun hx=>zRn _ _ hok⟩
 .cases he
def Gcss:=mkG [(61,zzQ)] [] 9 [] [] []
def zTd(F:Nat)(l:List (List UInt8))(v:List UInt8):=zF Gcss Tryz.f39 F [pL 1 .str l,pS v]
theorem zQq(F l v):zTd F l v=ze (l.length<=1000000) (some (.p (.bool (decide ((yC (v==·) l)>=0))),[])):=by kernel_rfl
theorem zSy(F l v r):IsP 39 (zTd F l v) [.p (.list 1 (.dat .str l)),.p (.str v)] r:=zG Gcss rfl ⟨zRK.any,trivial⟩
theorem zSI(l:List (List UInt8))(v:List UInt8)(hl:l.length<=1000000):zTd 0 l v=some (.p (.bool (l.any (v==·))),[]):=by
 rw[zQq,<-zbi]
 exact zd hl rfl
def zz0:List AV->Option (AV×Option Prop)
 | [.p (.list 1 (.dat .str l)),.p (.str v)]=>some (.p (.bool (l.any (v==·))),some (l.length<=1000000))
 | _=>none
theorem zRT:zn Tryz.prog 39 zz0:=by
 intro zs r ok he hok
 unfold zz0 at he
 split at he
 .cases he;exact⟨by kernel_rfl,zSy 0 _ _ _ fun hx=>zSI _ _ hok⟩
 .cases he
def zn3(k:Nat):=mkG [(38,zlu),(39,zz0),(40,zoA),(41,zgc),(44,zle)] [(36,znP k)] 150 [] [([1,1,1],⟨[3,7,8],[⟨.slot 8,8,.cells []⟩]⟩),([1,1,1,1,1,1,1,0,1,0,1,1,1],⟨[3,7,15,36],[]⟩)] [([0,0,1,0,1,0,1,1,1],[3]),([0,0,1,1,1,0,1,0,1,1,1],[3]),([0,0,1,1,1,1,1,0,1,0,1,1,1],[3]),([888888,1,1],[3,58,4,23]),([888888,1,1,1],[7,40])]
def zmj(k F:Nat)(p:yd)(vp1:zr)(f:List zr):=zx (zn3 k) Tryz.f23 F [] [1,1,1] [(3,.p (.box 1 (cell (.box zD) p))),(7,.p (.box 6 (cell zu vp1))),(8,.ref 8 0)] [(8,.cells [.clo (.func 35) [] [.p (.box 1 (cell (.box zD) p)),.p (.box 1 (cell (.list zu) f))]])]
def zhP(k F:Nat)(p:yd)(vp1:zr)(vi2:Int)(vc3:Bool):=zx (zn3 k) Tryz.f23 F [] [1,1,1,0,1,0,1,1,1,1,1,1,1] [(3,.p (.box 1 (cell (.box zD) p))),(7,.p (.box 6 (cell zu vp1))),(15,pI vi2),(36,pB vc3)] []
def zvS(k F:Nat)(p:yd)(f:List zr)(at_:Int):=zF (zn3 k) Tryz.f23 F [.p (.box 10 (cell zD p)),pL 6 zu f,pI at_]
theorem zwC(k:Nat)(F p vp1 f):letI A:=zeo k p f vp1.2.2.2.2.2;letI B:=vp1.2.2.2.2.2.any (kdP k p f);zmj k F p vp1 f=cond (vp1.1==1) (ze A (some (.p (.bool (!(vp1.2.2.2.2.2.any (kdN k p f)))),[]))) (cond (vp1.1==2) (ze A (some (.p (.bool B),[]))) (cond (vp1.1==3) (ze A (some (.p (.bool (!B)),[]))) (cond (vp1.1==4) (zhP k F p vp1 vp1.1 (vp1.1==4)) (zhP k F p vp1 vp1.1 (vp1.1==5))))):=by kernel_rfl
theorem zwB(k:Nat)(F p vp1 vi2 vc3):letI A:=p.2.2.length<=1000000/\vp1.2.2.2.1.length<=1000000;letI B:=inS p.2.2 vp1.2.2.2.1;letI C:=(p.1.2.2.1.length:Int);zhP k F p vp1 vi2 vc3=cond vc3 (ze (p.1.2.2.2.2.2.1.length<=1000000) (some (.p (.bool (p.1.2.2.2.2.2.1.any (inP vp1.2.1 (vp1.1==5)))),[]))) (cond (vi2==6) (ze (p.1.2.2.2.2.1.length<=1000000) (some (.p (.bool (p.1.2.2.2.2.1.any (vp1.2.2.2.1==·))),[]))) (cond (vi2==7) (some (.p (.bool (decide (p.1.2.2.2.1<vp1.2.1))),[])) (cond (vi2==8) (some (.p (.bool (decide (p.1.2.2.2.1>=vp1.2.1))),[])) (cond (vi2==9) (some (.p (.bool (decide (C>=vp1.2.1))),[])) (cond (vi2==10) (some (.p (.bool (decide (C<vp1.2.1))),[])) (cond (vi2==11) (ze A (ze ((!B)=true->p.2.1.length<=1000000/\∀ g ∈ p.2.1,fok vp1 g) (some (.p (.bool (B||(p.2.1.any (tP vp1)))),[])))) (cond (vi2==12) (ze (p.2.1.length<=1000000/\∀ g ∈ p.2.1,fok vp1 g) (some (.p (.bool (p.2.1.any (hP vp1))),[]))) (cond (vi2==13) (ze A (some (.p (.bool B),[]))) (cond (vi2==14) (ze (p.1.2.2.2.2.2.1.length<=1000000/\vp1.2.2.2.2.1.length<=1000000) (some (.p (.bool (p.1.2.2.2.2.2.1.any (wiP vp1.2.1 vp1.2.2.2.2.1))),[]))) (cond (vi2==15) (some (.p (.bool (decide (p.1.2.2.2.2.2.2.1>=vp1.2.1))),[])) (some (.p (.bool false),[])))))))))))):=letI A:=(!(inS p.2.2 vp1.2.2.2.1))=true;Eq.trans (by kernel_rfl) (zj rfl (zj rfl (zj rfl (zj rfl (zj rfl (zj rfl (zj (zf (nI A (nI A (nI A (nI A (nI A (zf (nN (inS p.2.2 vp1.2.2.2.1) rfl)))))))) rfl)))))))
theorem zCd(k:Nat)(F p f at_):letI A:=f.getD at_.toNat ((0:Int),((0:Int),([],([],([],[])))));zvS k F p f at_=ze (0<=at_/\at_<(f.length:Int)) (zmj k F p (A.1,(A.2.1,(A.2.2.1,(A.2.2.2.1,(A.2.2.2.2.1,A.2.2.2.2.2))))) f):=by kernel_rfl
theorem zGp(k:Nat)(hrec:zS Tryz.prog 36 (znP k))(F p f at_ r):IsP 23 (zvS k F p f at_) [.p (.box 10 (cell zD p)),.p (.list 6 (.dat zu f)),.p (.int .i64 at_)] r:=zG (zn3 k) rfl ⟨zFF.any,zRT.any,zAq.any,zxh.any,zFp.any,trivial⟩ (hr:=⟨hrec,trivial⟩)
theorem zQO(k F:Nat)(p:yd)(t:zr)(c:Bool)(hl:zfk p t)(hc:c=(t.1==4||t.1==5))(h1:t.1≠1)(h2:t.1≠2)(h3:t.1≠3):
 zhP k F p t t.1 c=some (.p (.bool (zbY p t)),[]):=by
 obtain⟨l1,l2,l3,l4,l5,l6,l7⟩:=hl
 obtain⟨kd,n,nm,sx,st,ks⟩:=t
 dsimp only at *
 rw[zwB]
 by_cases h4:kd=4
 .subst h4;subst hc;exact zd l1 rfl
 by_cases h5:kd=5
 .subst h5;subst hc;exact zd l1 rfl
 have hf:c=false:=by rw[hc,beq_eq_false_iff_ne.2 h4,beq_eq_false_iff_ne.2 h5];rfl
 refine zg hf ?_
 by_cases h6:kd=6
 .subst h6;exact zd l2 rfl
 refine zg (beq_eq_false_iff_ne.2 h6) ?_
 by_cases h7:kd=7
 .subst h7;rfl
 refine zg (beq_eq_false_iff_ne.2 h7) ?_
 by_cases h8:kd=8
 .subst h8;rfl
 refine zg (beq_eq_false_iff_ne.2 h8) ?_
 by_cases h9:kd=9
 .subst h9;rfl
 refine zg (beq_eq_false_iff_ne.2 h9) ?_
 by_cases h10:kd=10
 .subst h10;rfl
 refine zg (beq_eq_false_iff_ne.2 h10) ?_
 by_cases h11:kd=11
 .subst h11;exact zd ⟨l4,l5⟩ (zd (fun _=>⟨l6,l7⟩) rfl)
 refine zg (beq_eq_false_iff_ne.2 h11) ?_
 by_cases h12:kd=12
 .subst h12;exact zd ⟨l6,l7⟩ rfl
 refine zg (beq_eq_false_iff_ne.2 h12) ?_
 by_cases h13:kd=13
 .subst h13;exact zd ⟨l4,l5⟩ rfl
 refine zg (beq_eq_false_iff_ne.2 h13) ?_
 by_cases h14:kd=14
 .subst h14;exact zd ⟨l1,l3⟩ rfl
 refine zg (beq_eq_false_iff_ne.2 h14) ?_
 by_cases h15:kd=15
 .subst h15;rfl
 refine zg (beq_eq_false_iff_ne.2 h15) ?_
 unfold zbY zgk zgl
 dsimp only
 rw[if_neg h6,if_neg h11,if_neg h12,if_neg h13,if_neg h4,if_neg h5,if_neg h14,if_neg h7,if_neg h8,if_neg h9,if_neg h10,if_neg h15]
theorem zT0(k F:Nat)(p:yd)(t:zr)(f:List zr)(hl:zfk p t)(hk:t.1=1\/t.1=2\/t.1=3->zeo k p f t.2.2.2.2.2):
 zmj k F p t f=some (.p (.bool (if t.1=1 then !(t.2.2.2.2.2.any fun x=>!(hGF k p f x)) else if t.1=2 then t.2.2.2.2.2.any fun x=>hGF k p f x else if t.1=3 then !(t.2.2.2.2.2.any fun x=>hGF k p f x) else zbY p t)),[]):=by
 rw[zwC]
 by_cases h1:t.1=1
 .rw [if_pos h1];exact zi (by rw[h1];rfl) (zd (hk (.inl h1)) rfl)
 rw[if_neg h1]
 refine zg (beq_eq_false_iff_ne.2 h1) ?_
 by_cases h2:t.1=2
 .rw [if_pos h2];exact zi (by rw[h2];rfl) (zd (hk (.inr (.inl h2))) rfl)
 rw[if_neg h2]
 refine zg (beq_eq_false_iff_ne.2 h2) ?_
 by_cases h3:t.1=3
 .rw [if_pos h3];exact zi (by rw[h3];rfl) (zd (hk (.inr (.inr h3))) rfl)
 rw[if_neg h3]
 refine zg (beq_eq_false_iff_ne.2 h3) ?_
 by_cases h4:t.1=4
 .exact zi (by rw[h4];rfl) (zQO k F p t _ hl (by rw[h4];rfl) h1 h2 h3)
 .exact zg (beq_eq_false_iff_ne.2 h4) (zQO k F p t _ hl (by rw[beq_eq_false_iff_ne.2 h4,Bool.false_or]) h1 h2 h3)
theorem zFV(k:Nat)(p:yd)(f:List zr)(a:Int)(h:ziM (k+1) p f a):zvS k 0 p f a=some (.p (.bool (hGF (k+1) p f a)),[]):=by
 rw[ziM]at h
 obtain⟨h1,h2,h3⟩:=h
 rw[zCd,hGF]
 exact zd h1 (zT0 k 0 p (f.getD a.toNat dT) f h2 h3)
theorem zQB:∀ k,zn Tryz.prog 23 (zoP k)
 | 0=>by
  intro zs r ok he hok
  unfold zoP at he
  split at he
  .split at he
   .cases he;exact absurd hok (fun h=>h)
   .cases he
  .cases he
 | k+1=>by
  have e1:=zOt k (zQB k)
  have e2:=zOs k e1
  have e3:=zOB k (zOw k e1 e2)
  intro zs r ok he hok
  unfold zoP at he
  split at he
  .rename_i f R a
   split at he
   .rename_i p t hp ht
    cases he
    exact⟨by kernel_rfl,FnP.lq (ys:=[.p (.box 10 (cell zD p)),.p (.list 6 (.dat zu t)),.p (.int .i64 a)]) ⟨Lq.box (c:=zD) hp,Lq.list (a:=zu) ht,Lq.refl _,trivial⟩
     (zGp k e3 0 p t a _ fun _=>zFV k p t a hok)⟩
   .cases he
  .cases he
end Go.Proofs.YtampckbjinodgaaGreatDoor
