/-
  Lifted functions, and facts about them.
-/
import Derived.Test.YtampckbjinodgaaGreatDoorRows
import Derived.Test.YtampckbjinodgaaGreatDoorAmC
import Derived.Test.YtampckbjinodgaaGreatDoorC17
namespace Go.Proofs.YtampckbjinodgaaGreatDoor
open Go Go.Am
set_option linter.unusedVariables false
def LqG (x y:AV):Prop:=∀ (γ:Nat->Option G) (M:Mem) (v:Value),ARel γ M x v->ARel γ M y v
def LqGs:List AV->List AV->Prop
 | [],[]=>True
 | x::xs,y::ys=>LqG x y/\LqGs xs ys
 | _,_=>False
theorem LqG.refl (x:AV):LqG x x:=fun _ _ _ h=>h
theorem LqG.p {x y:PV} (h:Lq (.p x) (.p y)):LqG (.p x) (.p y):=fun _ M v hv=>.p _ _ (h M v (.p _ _ hv.p_inv)).p_inv
theorem LqGs.get:∀ {xs ys:List AV},LqGs xs ys->xs.length=ys.length/\∀ i,i < xs.length->LqG (xs.getD i .any) (ys.getD i .any)
 | [],[],_=>⟨rfl,fun i hi=>absurd hi (by simp)⟩
 | x :: xs, y :: ys, h => ⟨by simp [h.2.get.1], fun i hi => by
     cases i with
     | zero=>exact h.1
     | succ i=>exact h.2.get.2 i (by simpa using hi)⟩
theorem LqG.clo {fn:Fn} {xs ys:List AV} (h:LqGs xs ys):LqG (.clo fn [] xs) (.clo fn [] ys):=by
 intro γ M v hv
 cases hv with | clo _ _ _ vf vc hf hc h1 h2=>
 obtain ⟨hl,hg⟩:=h.get
 exact .clo _ _ _ _ _ hf (by rw [hc,hl]) h1 fun i hi=>hg i (by rw [hl]; exact hi) _ _ _ (h2 i (by rw [hl]; exact hi))
theorem LqGs.args {γ:Nat->Option G} {M:Mem}:∀ {xs ys:List AV} {vs:List Value},LqGs xs ys->ARels γ M xs vs->ARels γ M ys vs
 | [],[],_,_,h=>h
 | x::xs,y::ys,_,q,h=>by
  cases h with | cons h1 h2=>exact .cons (q.1 _ _ _ h1) (q.2.args h2)
theorem FnR.lq {P:Program} {f:FuncId} {xs ys:List AV} {ib:List (Nat×AObj)} {kept:List Nat} {r:AV} {outs:List (Nat×AObj)} (h:LqGs xs ys) (k:FnR P f ys ib kept r outs):FnR P f xs ib kept r outs:=
 fun γ M w vs hO hn hM hv=>k γ M w vs hO hn hM (h.args hv)
theorem one_key {a b:AObj} {id:Nat}:lookO id [(70000,a)]≠none↔lookO id [(70000,b)]≠none:=by
 show (match Nat.beq id 70000 with | true=>some a | false=>none)≠none↔(match Nat.beq id 70000 with | true=>some b | false=>none)≠none
 cases Nat.beq id 70000 <;> simp
theorem FnR.cells1 {P:Program} {f:FuncId} {args:List AV} {x y:AV} {kept:List Nat} {r:AV} {outs:List (Nat×AObj)} (hq:LqG x y) (k:FnR P f args [(70000,.cells [y])] kept r outs):FnR P f args [(70000,.cells [x])] kept r outs:=by
 intro γ M w vs hO hn hM hv
 have hH:∀ b,Go.Am.Handed γ [(70000,.cells [y])] b↔Go.Am.Handed γ [(70000,.cells [x])] b:=fun b=>
  ⟨fun ⟨id,g,h1,h2⟩=>⟨id,g,one_key.1 h1,h2⟩,fun ⟨id,g,h1,h2⟩=>⟨id,g,one_key.1 h1,h2⟩⟩
 have hO':Objs γ M w (fun i=>lookO i [(70000,.cells [y])]) (fun b=>b < w.heap.size):=by
  refine ⟨fun id o ho=>?_,fun i j g g' b hi hj=>hO.sep i j g g' b (one_key.1 hi) (one_key.1 hj),fun i g b hi=>hO.lo i g b (one_key.1 hi)⟩
  have ho:(match Nat.beq id 70000 with | true=>some (AObj.cells [y]) | false=>none)=some o:=ho
  cases hb:Nat.beq id 70000 with
  | false=>rw [hb] at ho; cases ho
  | true=>
   rw [hb] at ho; cases ho
   obtain rfl:=Nat.eq_of_beq_eq_true hb
   obtain ⟨b,vs',e,h1,h2,h3,h4,h5⟩:=hO.ob 70000 (.cells [x]) rfl
   refine ⟨b,vs',e,h1,h2,h3,fun j hj=>?_,h5⟩
   have hj0:j=0:=by simpa using hj
   subst hj0
   exact ⟨hq _ _ _ (h4 0 (by simp)).1,(h4 0 (by simp)).2⟩
 have hn':∀ i,lookO i [(70000,AObj.cells [y])]=none->γ i=none:=fun i hi=>hn i (by
  by_cases h:lookO i [(70000,AObj.cells [x])]=none
  .exact h
  .exact absurd hi (one_key.1 h))
 refine (k γ M w vs hO' hn' ⟨hM.toWOk,fun b hb=>hM.hand b ((hH b).1 hb)⟩ hv).mono fun e w' ⟨v,γ',M',h1,h2,h3,h4,h5,h6,h7,h8⟩=>⟨v,γ',M',h1,h2,h3,h4,h5,⟨h6.ob,h6.sep,fun id g b a1 a2 a3=>?_⟩,fun b hb hh=>h7 b hb fun hx=>hh ((hH b).1 hx),h8⟩
 have:=h6.lo id g b a1 a2 a3
 exact ⟨this.1.imp (fun q=>q) (fun q=>(hH b).1 q),this.2⟩
abbrev dT:TermT:=((0:Int),((0:Int),([],([],([],[])))))
def hold3 (p:OpenT) (t:TermT):Bool:=if t.1=6 then p.1.2.2.2.2.1.any (t.2.2.2.1==·) else hold2 p t
abbrev leafok (p:OpenT) (t:TermT):Prop:=p.1.2.2.2.2.2.1.length<=1000000/\p.1.2.2.2.2.1.length<=1000000/\t.2.2.2.2.1.length<=1000000/\p.2.2.length<=1000000/\t.2.2.2.1.length<=1000000/\p.2.1.length<=1000000/\∀ g ∈ p.2.1,fok t g
def hGF:Nat->OpenT->List TermT->Int->Bool
 | 0,_,_,_=>false
 | k+1,p,f,a=>
  if (f.getD a.toNat dT).1=1 then !((f.getD a.toNat dT).2.2.2.2.2.any fun x=>!(hGF k p f x))
  else if (f.getD a.toNat dT).1=2 then (f.getD a.toNat dT).2.2.2.2.2.any fun x=>hGF k p f x
  else if (f.getD a.toNat dT).1=3 then !((f.getD a.toNat dT).2.2.2.2.2.any fun x=>hGF k p f x)
  else hold3 p (f.getD a.toNat dT)
def hGok:Nat->OpenT->List TermT->Int->Prop
 | 0,_,_,_=>False
 | k+1,p,f,a=>(0<=a/\a < (f.length:Int))/\leafok p (f.getD a.toNat dT)/\
  ((f.getD a.toNat dT).1=1\/(f.getD a.toNat dT).1=2\/(f.getD a.toNat dT).1=3->(f.getD a.toNat dT).2.2.2.2.2.length<=1000000/\∀ x ∈ (f.getD a.toNat dT).2.2.2.2.2,hGok k p f x)
def kdP (k:Nat) (p:OpenT) (f:List TermT) (x:Int):Bool:=hGF k p f x
def kdN (k:Nat) (p:OpenT) (f:List TermT) (x:Int):Bool:=!(hGF k p f x)
abbrev kidsok (k:Nat) (p:OpenT) (f:List TermT) (l:List Int):Prop:=l.length<=1000000/\∀ x ∈ l,hGok k p f x
def sp_hG (k:Nat):List AV->Option (AV×Option Prop)
 | [.p (.box 10 f),.p R,.p (.int .i64 a)]=>match toDat openC (rangeL f 10 0),pList termC R with
  | some p,some t=>some (.p (.bool (hGF k p t a)),some (hGok k p t a))
  | _,_=>none
 | _=>none
noncomputable def Gkid1 (k:Nat):Cfg:=⟨Tryz.prog,mkEnv [(23,sp_hG k)],mkEnvR [],9,[],[],[]⟩
noncomputable def Fkid1 (k F:Nat) (x:Int) (p:OpenT) (f:List TermT):Option Ans:=runF (Gkid1 k) Tryz.f35 F [.p (.int .i64 x),.p (.box 1 (cell (.box openC) p)),.p (.box 1 (cell (.list termC) f))]
theorem Fkid1_eq (k F:Nat) (x:Int) (p:OpenT) (f:List TermT):Fkid1 k F x p f=need (hGok k p f x) (some (.p (.bool (hGF k p f x)),[])):=by kernel_rfl
theorem fn_kid1 (k:Nat) (hrec:SpecOk Tryz.prog 23 (sp_hG k)) (F:Nat) (x:Int) (p:OpenT) (f:List TermT) (r:AV) (h:(∃ M vs,ARels γ0 M [.p (.int .i64 x),.p (.box 1 (cell (.box openC) p)),.p (.box 1 (cell (.list termC) f))] vs)->Fkid1 k F x p f=some (r,[])):FnP Tryz.prog 35 [.p (.int .i64 x),.p (.box 1 (cell (.box openC) p)),.p (.box 1 (cell (.list termC) f))] r:=
 FnP_run (Gkid1 k) F rfl (EnvOk_mk (l:=[(23,sp_hG k)]) ⟨hrec.any,trivial⟩) (EnvROk_mk (l:=[]) trivial) (Checked.mixed Tryz.checked) (fn:=Tryz.f35) (by kernel_rfl) (by kernel_rfl) rfl h
def sp_kid1 (k:Nat):List AV->Option (AV×Option Prop)
 | [.p (.int .i64 x),.p (.box 1 f),.p (.box 1 g)]=>match toDat (.box openC) (rangeL f 1 0),toDat (.list termC) (rangeL g 1 0) with
  | some p,some t=>some (.p (.bool (hGF k p t x)),some (hGok k p t x))
  | _,_=>none
 | _=>none
theorem ok_kid1 (k:Nat) (hrec:SpecOk Tryz.prog 23 (sp_hG k)):SpecOk Tryz.prog 35 (sp_kid1 k):=by
 intro zs r ok he hok
 unfold sp_kid1 at he
 split at he
 .rename_i x f g
  split at he
  .rename_i p t hp ht
   cases he
   exact ⟨by kernel_rfl,FnP.lq (ys:=[.p (.int .i64 x),.p (.box 1 (cell (.box openC) p)),.p (.box 1 (cell (.list termC) t))]) ⟨Lq.refl _,Lq.box (c:=.box openC) hp,Lq.box (c:=.list termC) ht,trivial⟩
    (fn_kid1 k hrec 0 x p t _ fun _=>by rw [Fkid1_eq]; exact need_mk hok rfl)⟩
  .cases he
 .cases he
noncomputable def Gkid2 (k:Nat):Cfg:=⟨Tryz.prog,mkEnv [(35,sp_kid1 k)],mkEnvR [],8,[70000],[],[]⟩
noncomputable def Fkid2 (k F:Nat) (x:Int) (p:OpenT) (f:List TermT):Option Ans:=runFR (Gkid2 k) Tryz.f37 ⟨[3],[⟨.fix 70000,70000,.cells []⟩]⟩ [70000] F [.p (.int .i64 x),.ref 70000 0] [(70000,.cells [.clo (.func 35) [] [.p (.box 1 (cell (.box openC) p)),.p (.box 1 (cell (.list termC) f))]])]
theorem Fkid2_eq (k F:Nat) (x:Int) (p:OpenT) (f:List TermT):Fkid2 k F x p f=need (hGok k p f x) (some (.p (.bool (!(hGF k p f x))),[(70000,.cells [.clo (.func 35) [] [.p (.box 1 (cell (.box openC) p)),.p (.box 1 (cell (.list termC) f))]])])):=by kernel_rfl
theorem fn_kid2 (k:Nat) (hrec:SpecOk Tryz.prog 35 (sp_kid1 k)) (F:Nat) (x:Int) (p:OpenT) (f:List TermT) (r:AV) (os:List (Nat×AObj)) (h:(∃ γ M w vs,ARels γ M [.p (.int .i64 x),.ref 70000 0] vs/\Objs γ M w (fun i=>lookO i [(70000,.cells [.clo (.func 35) [] [.p (.box 1 (cell (.box openC) p)),.p (.box 1 (cell (.list termC) f))]])]) (fun b=>b < w.heap.size))->Fkid2 k F x p f=some (r,os)):FnR Tryz.prog 37 [.p (.int .i64 x),.ref 70000 0] [(70000,.cells [.clo (.func 35) [] [.p (.box 1 (cell (.box openC) p)),.p (.box 1 (cell (.list termC) f))]])] [70000] r os:=
 FnR_run (Gkid2 k) ⟨[3],[⟨.fix 70000,70000,.cells []⟩]⟩ [70000] F rfl (EnvOk_mk (l:=[(35,sp_kid1 k)]) ⟨hrec.any,trivial⟩) (EnvROk_mk (l:=[]) trivial) (Checked.mixed Tryz.checked) (fn:=Tryz.f37) (by kernel_rfl) (by kernel_rfl) rfl h
abbrev k35 (f g:Nat->PV):AV:=.clo (.func 35) [] [.p (.box 1 f),.p (.box 1 g)]
abbrev k35D (p:OpenT) (t:List TermT):AV:=.clo (.func 35) [] [.p (.box 1 (cell (.box openC) p)),.p (.box 1 (cell (.list termC) t))]
theorem k35_lq {f g:Nat->PV} {p:OpenT} {t:List TermT} (hp:toDat (.box openC) (rangeL f 1 0)=some p) (ht:toDat (.list termC) (rangeL g 1 0)=some t):LqG (k35 f g) (k35D p t):=
 LqG.clo ⟨LqG.p (Lq.box (c:=.box openC) hp),LqG.p (Lq.box (c:=.list termC) ht),trivial⟩
def sp_kid2 (k:Nat):RSpec:=⟨[true,false],fun args ib=>match args,ib with
 | [.p (.int .i64 x),.ref 70000 0],[(70000,.cells [.clo (.func 35) [] [.p (.box 1 f),.p (.box 1 g)]])]=>match toDat (.box openC) (rangeL f 1 0),toDat (.list termC) (rangeL g 1 0) with
  | some p,some t=>some (([70000],.p (.bool (!(hGF k p t x)))),([(70000,.cells [k35D p t])],some (hGok k p t x)))
  | _,_=>none
 | _,_=>none⟩
theorem ok_kid2 (k:Nat) (hrec:SpecOk Tryz.prog 35 (sp_kid1 k)):SpecROk Tryz.prog 37 (sp_kid2 k):=by
 intro args ib kept r outs ok he hok
 simp only [sp_kid2] at he
 split at he
 .rename_i x f g
  split at he
  .rename_i p t hp ht
   cases he
   exact ⟨by kernel_rfl,FnR.cells1 (k35_lq hp ht) (fn_kid2 k hrec 0 x p t _ _ fun _=>by rw [Fkid2_eq]; exact need_mk hok rfl)⟩
  .cases he
 .cases he
noncomputable def cidxK:Code:=bodyOf Tryz.f58
noncomputable def GidxK (k:Nat):Cfg:=⟨Tryz.prog,mkEnv [(35,sp_kid1 k)],mkEnvR [],19,[],[([0,1,0,1],⟨[0,1,7,8],[]⟩)],[]⟩
noncomputable def BidxK_1 (k F f1:Nat) (l:List Int) (p:OpenT) (f:List TermT) (vi1 vi2:Int):Option Ans:=runR (GidxK k) cidxK (kR Tryz.prog [] ⟨[4],[]⟩ [] Tryz.f58.results.toList) F [] [1,0,1,0] f1 [(0,.p (.list 1 (.dat (.int .i64) l))),(1,.clo (.func 35) [] [.p (.box 1 (cell (.box openC) p)),.p (.box 1 (cell (.list termC) f))]),(7,.p (.int .i64 vi1)),(8,.p (.int .i64 vi2))] []
noncomputable def FidxK (k F:Nat) (l:List Int) (p:OpenT) (f:List TermT):Option Ans:=runFR (GidxK k) Tryz.f58 ⟨[4],[]⟩ [] F [.p (.list 1 (.dat (.int .i64) l)),.clo (.func 35) [] [.p (.box 1 (cell (.box openC) p)),.p (.box 1 (cell (.list termC) f))]] []
theorem BidxK_1_eq (k F f1:Nat) (l:List Int) (p:OpenT) (f:List TermT) (vi1 vi2:Int):BidxK_1 k F (f1+1) l p f vi1 vi2=cond (decide (vi2 < vi1)) (need (0<=vi2/\vi2 < (l.length:Int)) (need (hGok k p f (l.getD (vi2).toNat (0:Int))) (cond (hGF k p f (l.getD (vi2).toNat (0:Int))) (some (.p (.int .i64 vi2),[])) (need (i64ok (vi2+(1:Int))) (BidxK_1 k F f1 l p f vi1 (vi2+(1:Int))))))) (some (.p (.int .i64 (-1:Int)),[])):=by kernel_rfl
theorem FidxK_eq (k F:Nat) (l:List Int) (p:OpenT) (f:List TermT):FidxK k F l p f=BidxK_1 k F F l p f (l.length:Int) (0:Int):=by kernel_rfl
theorem fn_idxK (k:Nat) (hrec:SpecOk Tryz.prog 35 (sp_kid1 k)) (F:Nat) (l:List Int) (p:OpenT) (f:List TermT) (r:AV) (os:List (Nat×AObj)) (h:(∃ γ M w vs,ARels γ M [.p (.list 1 (.dat (.int .i64) l)),.clo (.func 35) [] [.p (.box 1 (cell (.box openC) p)),.p (.box 1 (cell (.list termC) f))]] vs/\Objs γ M w (fun i=>lookO i []) (fun b=>b < w.heap.size))->FidxK k F l p f=some (r,os)):FnR Tryz.prog 58 [.p (.list 1 (.dat (.int .i64) l)),.clo (.func 35) [] [.p (.box 1 (cell (.box openC) p)),.p (.box 1 (cell (.list termC) f))]] [] [] r os:=
 FnR_run (GidxK k) ⟨[4],[]⟩ [] F rfl (EnvOk_mk (l:=[(35,sp_kid1 k)]) ⟨hrec.any,trivial⟩) (EnvROk_mk (l:=[]) trivial) (Checked.mixed Tryz.checked) (fn:=Tryz.f58) (by kernel_rfl) (by kernel_rfl) rfl h
noncomputable def cidxN:Code:=bodyOf Tryz.f58
noncomputable def GidxN (k:Nat):Cfg:=⟨Tryz.prog,mkEnv [],mkEnvR [(37,sp_kid2 k)],19,[70000],[([0,1,0,1],⟨[0,1,7,8],[⟨.fix 70000,70000,.cells []⟩]⟩)],[([0,1,0,0,1,1,0,0,1,0,1],[5])]⟩
noncomputable def BidxN_1 (k F f1:Nat) (l:List Int) (vi1 vi2:Int) (vp3:OpenT) (vp4:List TermT):Option Ans:=runR (GidxN k) cidxN (kR Tryz.prog [70000] ⟨[4],[⟨.fix 70000,70000,.cells []⟩]⟩ [70000] Tryz.f58.results.toList) F [] [1,0,1,0] f1 [(0,.p (.list 1 (.dat (.int .i64) l))),(1,.clo (.func 37) [] [.ref 70000 0]),(7,.p (.int .i64 vi1)),(8,.p (.int .i64 vi2))] [(70000,.cells [.clo (.func 35) [] [.p (.box 1 (cell (.box openC) vp3)),.p (.box 1 (cell (.list termC) vp4))]])]
noncomputable def FidxN (k F:Nat) (l:List Int) (p:OpenT) (f:List TermT):Option Ans:=runFR (GidxN k) Tryz.f58 ⟨[4],[⟨.fix 70000,70000,.cells []⟩]⟩ [70000] F [.p (.list 1 (.dat (.int .i64) l)),.clo (.func 37) [] [.ref 70000 0]] [(70000,.cells [.clo (.func 35) [] [.p (.box 1 (cell (.box openC) p)),.p (.box 1 (cell (.list termC) f))]])]
theorem BidxN_1_eq (k F f1:Nat) (l:List Int) (vi1 vi2:Int) (vp3:OpenT) (vp4:List TermT):BidxN_1 k F (f1+1) l vi1 vi2 vp3 vp4=cond (decide (vi2 < vi1)) (need (0<=vi2/\vi2 < (l.length:Int)) (need (hGok k vp3 vp4 (l.getD (vi2).toNat (0:Int))) (cond (!(hGF k vp3 vp4 (l.getD (vi2).toNat (0:Int)))) (some (.p (.int .i64 vi2),[(70000,.cells [.clo (.func 35) [] [.p (.box 1 (cell (.box openC) vp3)),.p (.box 1 (cell (.list termC) vp4))]])])) (need (i64ok (vi2+(1:Int))) (BidxN_1 k F f1 l vi1 (vi2+(1:Int)) vp3 vp4))))) (some (.p (.int .i64 (-1:Int)),[(70000,.cells [.clo (.func 35) [] [.p (.box 1 (cell (.box openC) vp3)),.p (.box 1 (cell (.list termC) vp4))]])])):=by kernel_rfl
theorem FidxN_eq (k F:Nat) (l:List Int) (p:OpenT) (f:List TermT):FidxN k F l p f=BidxN_1 k F F l (l.length:Int) (0:Int) p f:=by kernel_rfl
theorem fn_idxN (k:Nat) (hrec:SpecROk Tryz.prog 37 (sp_kid2 k)) (F:Nat) (l:List Int) (p:OpenT) (f:List TermT) (r:AV) (os:List (Nat×AObj)) (h:(∃ γ M w vs,ARels γ M [.p (.list 1 (.dat (.int .i64) l)),.clo (.func 37) [] [.ref 70000 0]] vs/\Objs γ M w (fun i=>lookO i [(70000,.cells [.clo (.func 35) [] [.p (.box 1 (cell (.box openC) p)),.p (.box 1 (cell (.list termC) f))]])]) (fun b=>b < w.heap.size))->FidxN k F l p f=some (r,os)):FnR Tryz.prog 58 [.p (.list 1 (.dat (.int .i64) l)),.clo (.func 37) [] [.ref 70000 0]] [(70000,.cells [.clo (.func 35) [] [.p (.box 1 (cell (.box openC) p)),.p (.box 1 (cell (.list termC) f))]])] [70000] r os:=
 FnR_run (GidxN k) ⟨[4],[⟨.fix 70000,70000,.cells []⟩]⟩ [70000] F rfl (EnvOk_mk (l:=[]) trivial) (EnvROk_mk (l:=[(37,sp_kid2 k)]) ⟨hrec,trivial⟩) (Checked.mixed Tryz.checked) (fn:=Tryz.f58) (by kernel_rfl) (by kernel_rfl) rfl h
abbrev i64C:Ec:=.int .i64
theorem getD_any {l:List Int} {i:Nat} (h:i < l.length) {P:Int->Prop} (hp:∀ x ∈ l,P x):P (l.getD i 0):=hp _ (getD_mem h 0)
theorem idxK_eq (k:Nat) (l:List Int) (p:OpenT) (f:List TermT) (h:kidsok k p f l):FidxK k (l.length+1) l p f=some (.p (.int .i64 (idxP (kdP k p f) l)),[]):=by
 rw [FidxK_eq]
 refine idx_all (0:Int) l (kdP k p f) (fun f' i=>BidxK_1 k (l.length+1) f' l p f (l.length:Int) i) (fun f' i hi=>?_) (fun f'=>?_) h.1
 .show BidxK_1 k (l.length+1) (f'+1) l p f (l.length:Int) (i:Int)=_
  rw [BidxK_1_eq]
  refine cond_t (by simpa using hi) (need_mk ⟨by omega,by simpa using hi⟩ (need_mk (by rw [Int.toNat_natCast]; exact getD_any hi h.2) ?_))
  rw [Int.toNat_natCast]
  show cond (kdP k p f (l.getD i 0)) _ _=_
  cases kdP k p f (l.getD i 0) with
  | true=>rfl
  | false=>exact need_mk (by have:=h.1; unfold i64ok; omega) rfl
 .show BidxK_1 k (l.length+1) (f'+1) l p f (l.length:Int) (l.length:Int)=_
  rw [BidxK_1_eq]
  exact cond_f (by simp) rfl
theorem idx_loopO {α:Type} (d:α) (l:List α) (p:α->Bool) (o:List (Nat×AObj)) (B:Nat->Int->Option Ans)
 (h1:∀ (f i:Nat),i < l.length->B (f+1) i=cond (p (l.getD i d)) (some (.p (.int .i64 i),o)) (B f ((i:Int)+1)))
 (h0:∀ f:Nat,B (f+1) l.length=some (.p (.int .i64 (-1)),o)):
 ∀ (r:List α) (i:Nat),l.drop i=r->i+r.length=l.length->B (r.length+1) i=some (.p (.int .i64 (if idxP p r=-1 then -1 else i+idxP p r)),o)
 | [],i,_,hl=>by
  have:i=l.length:=by simpa using hl
  subst this
  rw [h0]; rfl
 | x::r,i,hd,hl=>by
  have hi:i < l.length:=by simp at hl; omega
  have hx:l.getD i d=x:=by
   rw [List.getD_eq_getElem?_getD,<-List.head?_drop,hd]; rfl
  rw [List.length_cons,h1 _ _ hi,hx,idxP]
  by_cases hp:p x=true
  .rw [hp,if_pos rfl]; simp
  .have hp:p x=false:=by simpa using hp
   rw [hp]
   have hr:=idx_loopO d l p o B h1 h0 r (i+1) (by rw [<-List.tail_drop,hd]; rfl) (by simp at hl; omega)
   have hg:=idxP_ge p r
   show B (r.length+1) ((i:Int)+1)=_
   rw [show ((i:Int)+1)=((i+1:Nat):Int) by omega,hr]
   simp only [Bool.false_eq_true,if_false]
   by_cases hm:idxP p r=-1
   .rw [if_pos hm,if_pos hm,if_pos rfl]
   .rw [if_neg hm,if_neg hm,if_neg (by omega)]
    congr 4; omega
theorem idxN_eq (k:Nat) (l:List Int) (p:OpenT) (f:List TermT) (h:kidsok k p f l):FidxN k (l.length+1) l p f=some (.p (.int .i64 (idxP (kdN k p f) l)),[(70000,.cells [k35D p f])]):=by
 rw [FidxN_eq]
 have hh:=idx_loopO (0:Int) l (kdN k p f) [(70000,.cells [k35D p f])] (fun f' i=>BidxN_1 k (l.length+1) f' l (l.length:Int) i p f) (fun f' i hi=>?_) (fun f'=>?_) l 0 rfl (by simp)
 .have e:(if idxP (kdN k p f) l=-1 then (-1:Int) else ((0:Nat):Int)+idxP (kdN k p f) l)=idxP (kdN k p f) l:=by split <;> omega
  rw [e] at hh
  exact hh
 .show BidxN_1 k (l.length+1) (f'+1) l (l.length:Int) (i:Int) p f=_
  rw [BidxN_1_eq]
  refine cond_t (by simpa using hi) (need_mk ⟨by omega,by simpa using hi⟩ (need_mk (by rw [Int.toNat_natCast]; exact getD_any hi h.2) ?_))
  rw [Int.toNat_natCast]
  show cond (kdN k p f (l.getD i 0)) _ _=_
  cases kdN k p f (l.getD i 0) with
  | true=>rfl
  | false=>exact need_mk (by have:=h.1; unfold i64ok; omega) rfl
 .show BidxN_1 k (l.length+1) (f'+1) l (l.length:Int) (l.length:Int) p f=_
  rw [BidxN_1_eq]
  exact cond_f (by simp) rfl
def sp_idxI (k:Nat):RSpec:=⟨[true,false],fun args ib=>match args,ib with
 | [.p l,.clo (.func 35) [] [.p (.box 1 f),.p (.box 1 g)]],[]=>match pList i64C l,toDat (.box openC) (rangeL f 1 0),toDat (.list termC) (rangeL g 1 0) with
  | some l,some p,some t=>some (([],.p (.int .i64 (idxP (kdP k p t) l))),([],some (kidsok k p t l)))
  | _,_,_=>none
 | [.p l,.clo (.func 37) [] [.ref 70000 0]],[(70000,.cells [.clo (.func 35) [] [.p (.box 1 f),.p (.box 1 g)]])]=>match pList i64C l,toDat (.box openC) (rangeL f 1 0),toDat (.list termC) (rangeL g 1 0) with
  | some l,some p,some t=>some (([70000],.p (.int .i64 (idxP (kdN k p t) l))),([(70000,.cells [k35D p t])],some (kidsok k p t l)))
  | _,_,_=>none
 | _,_=>none⟩
theorem ok_idxI (k:Nat) (h1:SpecOk Tryz.prog 35 (sp_kid1 k)) (h2:SpecROk Tryz.prog 37 (sp_kid2 k)):SpecROk Tryz.prog 58 (sp_idxI k):=by
 intro args ib kept r outs ok he hok
 simp only [sp_idxI] at he
 split at he
 .rename_i l' f g
  split at he
  .rename_i l p t hl hp ht
   cases he
   exact ⟨by kernel_rfl,FnR.lq (ys:=[.p (.list 1 (.dat i64C l)),k35D p t]) ⟨LqG.p (Lq.list (a:=i64C) hl),k35_lq hp ht,trivial⟩ (fn_idxK k h1 (l.length+1) l p t _ _ fun _=>idxK_eq k l p t hok)⟩
  .cases he
 .rename_i l' f g
  split at he
  .rename_i l p t hl hp ht
   cases he
   exact ⟨by kernel_rfl,FnR.lq (ys:=[.p (.list 1 (.dat i64C l)),.clo (.func 37) [] [.ref 70000 0]]) ⟨LqG.p (Lq.list (a:=i64C) hl),LqG.refl _,trivial⟩ (FnR.cells1 (k35_lq hp ht) (fn_idxN k h2 (l.length+1) l p t _ _ fun _=>idxN_eq k l p t hok))⟩
  .cases he
 .cases he
noncomputable def GctnK (k:Nat):Cfg:=⟨Tryz.prog,mkEnv [],mkEnvR [(58,sp_idxI k)],9,[],[],[([0,1],[2])]⟩
noncomputable def FctnK (k F:Nat) (l:List Int) (p:OpenT) (f:List TermT):Option Ans:=runFR (GctnK k) Tryz.f36 ⟨[4],[]⟩ [] F [.p (.list 1 (.dat (.int .i64) l)),.clo (.func 35) [] [.p (.box 1 (cell (.box openC) p)),.p (.box 1 (cell (.list termC) f))]] []
theorem FctnK_eq (k F:Nat) (l:List Int) (p:OpenT) (f:List TermT):FctnK k F l p f=need (kidsok k p f l) (some (.p (.bool (decide ((idxP (kdP k p f) l)>=(0:Int)))),[])):=by kernel_rfl
theorem fn_ctnK (k:Nat) (hrec:SpecROk Tryz.prog 58 (sp_idxI k)) (F:Nat) (l:List Int) (p:OpenT) (f:List TermT) (r:AV) (os:List (Nat×AObj)) (h:(∃ γ M w vs,ARels γ M [.p (.list 1 (.dat (.int .i64) l)),.clo (.func 35) [] [.p (.box 1 (cell (.box openC) p)),.p (.box 1 (cell (.list termC) f))]] vs/\Objs γ M w (fun i=>lookO i []) (fun b=>b < w.heap.size))->FctnK k F l p f=some (r,os)):FnR Tryz.prog 36 [.p (.list 1 (.dat (.int .i64) l)),.clo (.func 35) [] [.p (.box 1 (cell (.box openC) p)),.p (.box 1 (cell (.list termC) f))]] [] [] r os:=
 FnR_run (GctnK k) ⟨[4],[]⟩ [] F rfl (EnvOk_mk (l:=[]) trivial) (EnvROk_mk (l:=[(58,sp_idxI k)]) ⟨hrec,trivial⟩) (Checked.mixed Tryz.checked) (fn:=Tryz.f36) (by kernel_rfl) (by kernel_rfl) rfl h
noncomputable def GctnN (k:Nat):Cfg:=⟨Tryz.prog,mkEnv [],mkEnvR [(58,sp_idxI k)],9,[70000],[],[([0,1],[2])]⟩
noncomputable def FctnN (k F:Nat) (l:List Int) (p:OpenT) (f:List TermT):Option Ans:=runFR (GctnN k) Tryz.f36 ⟨[4],[⟨.fix 70000,70000,.cells []⟩]⟩ [70000] F [.p (.list 1 (.dat (.int .i64) l)),.clo (.func 37) [] [.ref 70000 0]] [(70000,.cells [.clo (.func 35) [] [.p (.box 1 (cell (.box openC) p)),.p (.box 1 (cell (.list termC) f))]])]
theorem FctnN_eq (k F:Nat) (l:List Int) (p:OpenT) (f:List TermT):FctnN k F l p f=need (kidsok k p f l) (some (.p (.bool (decide ((idxP (kdN k p f) l)>=(0:Int)))),[(70000,.cells [.clo (.func 35) [] [.p (.box 1 (cell (.box openC) p)),.p (.box 1 (cell (.list termC) f))]])])):=by kernel_rfl
theorem fn_ctnN (k:Nat) (hrec:SpecROk Tryz.prog 58 (sp_idxI k)) (F:Nat) (l:List Int) (p:OpenT) (f:List TermT) (r:AV) (os:List (Nat×AObj)) (h:(∃ γ M w vs,ARels γ M [.p (.list 1 (.dat (.int .i64) l)),.clo (.func 37) [] [.ref 70000 0]] vs/\Objs γ M w (fun i=>lookO i [(70000,.cells [.clo (.func 35) [] [.p (.box 1 (cell (.box openC) p)),.p (.box 1 (cell (.list termC) f))]])]) (fun b=>b < w.heap.size))->FctnN k F l p f=some (r,os)):FnR Tryz.prog 36 [.p (.list 1 (.dat (.int .i64) l)),.clo (.func 37) [] [.ref 70000 0]] [(70000,.cells [.clo (.func 35) [] [.p (.box 1 (cell (.box openC) p)),.p (.box 1 (cell (.list termC) f))]])] [70000] r os:=
 FnR_run (GctnN k) ⟨[4],[⟨.fix 70000,70000,.cells []⟩]⟩ [70000] F rfl (EnvOk_mk (l:=[]) trivial) (EnvROk_mk (l:=[(58,sp_idxI k)]) ⟨hrec,trivial⟩) (Checked.mixed Tryz.checked) (fn:=Tryz.f36) (by kernel_rfl) (by kernel_rfl) rfl h
def sp_ctnI (k:Nat):RSpec:=⟨[true,false],fun args ib=>match args,ib with
 | [.p l,.clo (.func 35) [] [.p (.box 1 f),.p (.box 1 g)]],[]=>match pList i64C l,toDat (.box openC) (rangeL f 1 0),toDat (.list termC) (rangeL g 1 0) with
  | some l,some p,some t=>some (([],.p (.bool (l.any (kdP k p t)))),([],some (kidsok k p t l)))
  | _,_,_=>none
 | [.p l,.clo (.func 37) [] [.ref 70000 0]],[(70000,.cells [.clo (.func 35) [] [.p (.box 1 f),.p (.box 1 g)]])]=>match pList i64C l,toDat (.box openC) (rangeL f 1 0),toDat (.list termC) (rangeL g 1 0) with
  | some l,some p,some t=>some (([70000],.p (.bool (l.any (kdN k p t)))),([(70000,.cells [k35D p t])],some (kidsok k p t l)))
  | _,_,_=>none
 | _,_=>none⟩
theorem ok_ctnI (k:Nat) (hrec:SpecROk Tryz.prog 58 (sp_idxI k)):SpecROk Tryz.prog 36 (sp_ctnI k):=by
 intro args ib kept r outs ok he hok
 simp only [sp_ctnI] at he
 split at he
 .rename_i l' f g
  split at he
  .rename_i l p t hl hp ht
   cases he
   exact ⟨by kernel_rfl,FnR.lq (ys:=[.p (.list 1 (.dat i64C l)),k35D p t]) ⟨LqG.p (Lq.list (a:=i64C) hl),k35_lq hp ht,trivial⟩ (fn_ctnK k hrec 0 l p t _ _ fun _=>by rw [FctnK_eq,<-idxP_any]; exact need_mk hok rfl)⟩
  .cases he
 .rename_i l' f g
  split at he
  .rename_i l p t hl hp ht
   cases he
   exact ⟨by kernel_rfl,FnR.lq (ys:=[.p (.list 1 (.dat i64C l)),.clo (.func 37) [] [.ref 70000 0]]) ⟨LqG.p (Lq.list (a:=i64C) hl),LqG.refl _,trivial⟩ (FnR.cells1 (k35_lq hp ht) (fn_ctnN k hrec 0 l p t _ _ fun _=>by rw [FctnN_eq,<-idxP_any]; exact need_mk hok rfl))⟩
  .cases he
 .cases he
end Go.Proofs.YtampckbjinodgaaGreatDoor
namespace Go.Proofs.YtampckbjinodgaaGreatDoor
open Go Go.Am
set_option linter.unusedVariables false
noncomputable def cxss:Code:=bodyOf Tryz.f61
noncomputable def Gxss:Cfg:=⟨Tryz.prog,mkEnv [],mkEnvR [],19,[],[([0,1,0,1],⟨[0,1,7,8],[]⟩)],[]⟩
noncomputable def Bxss_1 (F f1:Nat) (l:List (List UInt8)) (v:List UInt8) (vi1 vi2:Int):Option Ans:=runR Gxss cxss (kP Tryz.prog Tryz.f61.results.toList) F [] [1,0,1,0] f1 [(0,.p (.list 1 (.dat .str l))),(1,.p (.str v)),(7,.p (.int .i64 vi1)),(8,.p (.int .i64 vi2))] []
noncomputable def Fxss (F:Nat) (l:List (List UInt8)) (v:List UInt8):Option Ans:=runF Gxss Tryz.f61 F [.p (.list 1 (.dat .str l)),.p (.str v)]
theorem Bxss_1_eq (F f1:Nat) (l:List (List UInt8)) (v:List UInt8) (vi1 vi2:Int):Bxss_1 F (f1+1) l v vi1 vi2=cond (decide (vi2 < vi1)) (need (0<=vi2/\vi2 < (l.length:Int)) (cond (v==(l.getD (vi2).toNat [])) (some (.p (.int .i64 vi2),[])) (need (i64ok (vi2+(1:Int))) (Bxss_1 F f1 l v vi1 (vi2+(1:Int)))))) (some (.p (.int .i64 (-1:Int)),[])):=by kernel_rfl
theorem Fxss_eq (F:Nat) (l:List (List UInt8)) (v:List UInt8):Fxss F l v=Bxss_1 F F l v (l.length:Int) (0:Int):=by kernel_rfl
theorem fn_xss (F:Nat) (l:List (List UInt8)) (v:List UInt8) (r:AV) (h:(∃ M vs,ARels γ0 M [.p (.list 1 (.dat .str l)),.p (.str v)] vs)->Fxss F l v=some (r,[])):FnP Tryz.prog 61 [.p (.list 1 (.dat .str l)),.p (.str v)] r:=
 FnP_run Gxss F rfl (EnvOk_mk (l:=[]) trivial) (EnvROk_mk (l:=[]) trivial) (Checked.mixed Tryz.checked) (fn:=Tryz.f61) (by kernel_rfl) (by kernel_rfl) rfl h
theorem xss_eq (l:List (List UInt8)) (v:List UInt8) (hl:l.length<=1000000):Fxss (l.length+1) l v=some (.p (.int .i64 (idxP (v==·) l)),[]):=by
 rw [Fxss_eq]
 refine idx_all ([]:List UInt8) l (v==·) (fun f i=>Bxss_1 (l.length+1) f l v (l.length:Int) i) (fun f i hi=>?_) (fun f=>?_) hl
 .show Bxss_1 (l.length+1) (f+1) l v (l.length:Int) (i:Int)=_
  rw [Bxss_1_eq]
  refine cond_t (by simpa using hi) (need_mk ⟨by omega,by simpa using hi⟩ ?_)
  rw [Int.toNat_natCast]
  cases (v==l.getD i []) with
  | true=>rfl
  | false=>exact need_mk (by unfold i64ok; omega) rfl
 .show Bxss_1 (l.length+1) (f+1) l v (l.length:Int) (l.length:Int)=_
  rw [Bxss_1_eq]
  exact cond_f (by simp) rfl
def sp_xss:List AV->Option (AV×Option Prop)
 | [.p (.list 1 (.dat .str l)),.p (.str v)]=>some (.p (.int .i64 (idxP (v==·) l)),some (l.length<=1000000))
 | _=>none
theorem ok_xss:SpecOk Tryz.prog 61 sp_xss:=by
 intro zs r ok he hok
 unfold sp_xss at he
 split at he
 .cases he; exact ⟨by kernel_rfl,fn_xss (_) _ _ _ fun hx=>xss_eq _ _ hok⟩
 .cases he
noncomputable def Gcss:Cfg:=⟨Tryz.prog,mkEnv [(61,sp_xss)],mkEnvR [],9,[],[],[]⟩
noncomputable def Fcss (F:Nat) (l:List (List UInt8)) (v:List UInt8):Option Ans:=runF Gcss Tryz.f39 F [.p (.list 1 (.dat .str l)),.p (.str v)]
theorem Fcss_eq (F:Nat) (l:List (List UInt8)) (v:List UInt8):Fcss F l v=need (l.length<=1000000) (some (.p (.bool (decide ((idxP (v==·) l)>=(0:Int)))),[])):=by kernel_rfl
theorem fn_css (F:Nat) (l:List (List UInt8)) (v:List UInt8) (r:AV) (h:(∃ M vs,ARels γ0 M [.p (.list 1 (.dat .str l)),.p (.str v)] vs)->Fcss F l v=some (r,[])):FnP Tryz.prog 39 [.p (.list 1 (.dat .str l)),.p (.str v)] r:=
 FnP_run Gcss F rfl (EnvOk_mk (l:=[(61,sp_xss)]) ⟨ok_xss.any,trivial⟩) (EnvROk_mk (l:=[]) trivial) (Checked.mixed Tryz.checked) (fn:=Tryz.f39) (by kernel_rfl) (by kernel_rfl) rfl h
theorem css_eq (l:List (List UInt8)) (v:List UInt8) (hl:l.length<=1000000):Fcss 0 l v=some (.p (.bool (l.any (v==·))),[]):=by
 rw [Fcss_eq,<-idxP_any]
 exact need_mk hl rfl
def sp_css:List AV->Option (AV×Option Prop)
 | [.p (.list 1 (.dat .str l)),.p (.str v)]=>some (.p (.bool (l.any (v==·))),some (l.length<=1000000))
 | _=>none
theorem ok_css:SpecOk Tryz.prog 39 sp_css:=by
 intro zs r ok he hok
 unfold sp_css at he
 split at he
 .cases he; exact ⟨by kernel_rfl,fn_css 0 _ _ _ fun hx=>css_eq _ _ hok⟩
 .cases he
noncomputable def choldsG:Code:=bodyOf Tryz.f23
noncomputable def GholdsG (k:Nat):Cfg:=⟨Tryz.prog,mkEnv [(38,sp_inside),(39,sp_css),(40,sp_tin),(41,sp_ctnField),(44,sp_within)],mkEnvR [(36,sp_ctnI k)],150,[],[([1,1,1],⟨[3,7,8],[⟨.slot 8,8,.cells []⟩]⟩),([1,1,1,1,1,1,1,0,1,0,1,1,1],⟨[3,7,15,36],[]⟩)],[([0,0,1,0,1,0,1,1,1],[3]),([0,0,1,1,1,0,1,0,1,1,1],[3]),([0,0,1,1,1,1,1,0,1,0,1,1,1],[3]),([888888,1,1],[3,58,4,23]),([888888,1,1,1],[7,40])]⟩
noncomputable def BholdsG_1 (k F:Nat) (p:OpenT) (vp1:TermT) (f:List TermT):Option Ans:=runB (GholdsG k) choldsG (kP Tryz.prog Tryz.f23.results.toList) F [] [1,1,1] [(3,.p (.box 1 (cell (.box openC) p))),(7,.p (.box 6 (cell termC vp1))),(8,.ref 8 0)] [(8,.cells [.clo (.func 35) [] [.p (.box 1 (cell (.box openC) p)),.p (.box 1 (cell (.list termC) f))]])]
noncomputable def BholdsG_2 (k F:Nat) (p:OpenT) (vp1:TermT) (vi2:Int) (vc3:Bool):Option Ans:=runB (GholdsG k) choldsG (kP Tryz.prog Tryz.f23.results.toList) F [] [1,1,1,0,1,0,1,1,1,1,1,1,1] [(3,.p (.box 1 (cell (.box openC) p))),(7,.p (.box 6 (cell termC vp1))),(15,.p (.int .i64 vi2)),(36,.p (.bool vc3))] []
noncomputable def FholdsG (k F:Nat) (p:OpenT) (f:List TermT) (at_:Int):Option Ans:=runF (GholdsG k) Tryz.f23 F [.p (.box 10 (cell openC p)),.p (.list 6 (.dat termC f)),.p (.int .i64 at_)]
theorem BholdsG_1_eq (k F:Nat) (p:OpenT) (vp1:TermT) (f:List TermT):BholdsG_1 k F p vp1 f=cond (vp1.1==(1:Int)) (need (kidsok k p f vp1.2.2.2.2.2) (some (.p (.bool (!(vp1.2.2.2.2.2.any (kdN k p f)))),[]))) (cond (vp1.1==(2:Int)) (need (kidsok k p f vp1.2.2.2.2.2) (some (.p (.bool (vp1.2.2.2.2.2.any (kdP k p f))),[]))) (cond (vp1.1==(3:Int)) (need (kidsok k p f vp1.2.2.2.2.2) (some (.p (.bool (!(vp1.2.2.2.2.2.any (kdP k p f)))),[]))) (cond (vp1.1==(4:Int)) (BholdsG_2 k F p vp1 vp1.1 (vp1.1==(4:Int))) (BholdsG_2 k F p vp1 vp1.1 (vp1.1==(5:Int)))))):=by kernel_rfl
theorem BholdsG_2_eq (k F:Nat) (p:OpenT) (vp1:TermT) (vi2:Int) (vc3:Bool):BholdsG_2 k F p vp1 vi2 vc3=cond (vc3) (need (p.1.2.2.2.2.2.1.length<=1000000) (some (.p (.bool (p.1.2.2.2.2.2.1.any (inP vp1.2.1 (vp1.1==(5:Int))))),[]))) (cond (vi2==(6:Int)) (need (p.1.2.2.2.2.1.length<=1000000) (some (.p (.bool (p.1.2.2.2.2.1.any (vp1.2.2.2.1==·))),[]))) (cond (vi2==(7:Int)) (some (.p (.bool (decide (p.1.2.2.2.1 < vp1.2.1))),[])) (cond (vi2==(8:Int)) (some (.p (.bool (decide (p.1.2.2.2.1>=vp1.2.1))),[])) (cond (vi2==(9:Int)) (some (.p (.bool (decide ((p.1.2.2.1.length:Int)>=vp1.2.1))),[])) (cond (vi2==(10:Int)) (some (.p (.bool (decide ((p.1.2.2.1.length:Int) < vp1.2.1))),[])) (cond (vi2==(11:Int)) (need (p.2.2.length<=1000000/\vp1.2.2.2.1.length<=1000000) ((((((need ((!(inS p.2.2 vp1.2.2.2.1))=true->p.2.1.length<=1000000/\∀ g ∈ p.2.1,fok vp1 g) ((some (.p (.bool ((inS p.2.2 vp1.2.2.2.1)||(p.2.1.any (tP vp1)))),[])))))))))) (cond (vi2==(12:Int)) (need (p.2.1.length<=1000000/\∀ g ∈ p.2.1,fok vp1 g) (some (.p (.bool (p.2.1.any (hP vp1))),[]))) (cond (vi2==(13:Int)) (need (p.2.2.length<=1000000/\vp1.2.2.2.1.length<=1000000) (some (.p (.bool (inS p.2.2 vp1.2.2.2.1)),[]))) (cond (vi2==(14:Int)) (need (p.1.2.2.2.2.2.1.length<=1000000/\vp1.2.2.2.2.1.length<=1000000) (some (.p (.bool (p.1.2.2.2.2.2.1.any (wiP vp1.2.1 vp1.2.2.2.2.1))),[]))) (cond (vi2==(15:Int)) (some (.p (.bool (decide (p.1.2.2.2.2.2.2.1>=vp1.2.1))),[])) (some (.p (.bool false),[])))))))))))):=by
 have h:BholdsG_2 k F p vp1 vi2 vc3=cond (vc3) (need (p.1.2.2.2.2.2.1.length<=1000000) (some (.p (.bool (p.1.2.2.2.2.2.1.any (inP vp1.2.1 (vp1.1==(5:Int))))),[]))) (cond (vi2==(6:Int)) (need (p.1.2.2.2.2.1.length<=1000000) (some (.p (.bool (p.1.2.2.2.2.1.any (vp1.2.2.2.1==·))),[]))) (cond (vi2==(7:Int)) (some (.p (.bool (decide (p.1.2.2.2.1 < vp1.2.1))),[])) (cond (vi2==(8:Int)) (some (.p (.bool (decide (p.1.2.2.2.1>=vp1.2.1))),[])) (cond (vi2==(9:Int)) (some (.p (.bool (decide ((p.1.2.2.1.length:Int)>=vp1.2.1))),[])) (cond (vi2==(10:Int)) (some (.p (.bool (decide ((p.1.2.2.1.length:Int) < vp1.2.1))),[])) (cond (vi2==(11:Int)) (need (p.2.2.length<=1000000/\vp1.2.2.2.1.length<=1000000) (need ((!(inS p.2.2 vp1.2.2.2.1))=true->(!(inS p.2.2 vp1.2.2.2.1))=true) (need ((!(inS p.2.2 vp1.2.2.2.1))=true->(!(inS p.2.2 vp1.2.2.2.1))=true) (need ((!(inS p.2.2 vp1.2.2.2.1))=true->(!(inS p.2.2 vp1.2.2.2.1))=true) (need ((!(inS p.2.2 vp1.2.2.2.1))=true->(!(inS p.2.2 vp1.2.2.2.1))=true) (need ((!(inS p.2.2 vp1.2.2.2.1))=true->(!(inS p.2.2 vp1.2.2.2.1))=true) (need ((!(inS p.2.2 vp1.2.2.2.1))=true->p.2.1.length<=1000000/\∀ g ∈ p.2.1,fok vp1 g) (need ((inS p.2.2 vp1.2.2.2.1)=false->(!(inS p.2.2 vp1.2.2.2.1))=true) (some (.p (.bool ((inS p.2.2 vp1.2.2.2.1)||(p.2.1.any (tP vp1)))),[])))))))))) (cond (vi2==(12:Int)) (need (p.2.1.length<=1000000/\∀ g ∈ p.2.1,fok vp1 g) (some (.p (.bool (p.2.1.any (hP vp1))),[]))) (cond (vi2==(13:Int)) (need (p.2.2.length<=1000000/\vp1.2.2.2.1.length<=1000000) (some (.p (.bool (inS p.2.2 vp1.2.2.2.1)),[]))) (cond (vi2==(14:Int)) (need (p.1.2.2.2.2.2.1.length<=1000000/\vp1.2.2.2.2.1.length<=1000000) (some (.p (.bool (p.1.2.2.2.2.2.1.any (wiP vp1.2.1 vp1.2.2.2.2.1))),[]))) (cond (vi2==(15:Int)) (some (.p (.bool (decide (p.1.2.2.2.2.2.2.1>=vp1.2.1))),[])) (some (.p (.bool false),[])))))))))))):=by kernel_rfl
 rw [h,need_pos (show (inS p.2.2 vp1.2.2.2.1)=false->(!(inS p.2.2 vp1.2.2.2.1))=true from (fun q0=>(not_mk q0))),need_pos (show (!(inS p.2.2 vp1.2.2.2.1))=true->(!(inS p.2.2 vp1.2.2.2.1))=true from (fun q0=>q0)),need_pos (show (!(inS p.2.2 vp1.2.2.2.1))=true->(!(inS p.2.2 vp1.2.2.2.1))=true from (fun q0=>q0)),need_pos (show (!(inS p.2.2 vp1.2.2.2.1))=true->(!(inS p.2.2 vp1.2.2.2.1))=true from (fun q0=>q0)),need_pos (show (!(inS p.2.2 vp1.2.2.2.1))=true->(!(inS p.2.2 vp1.2.2.2.1))=true from (fun q0=>q0)),need_pos (show (!(inS p.2.2 vp1.2.2.2.1))=true->(!(inS p.2.2 vp1.2.2.2.1))=true from (fun q0=>q0))]
theorem FholdsG_eq (k F:Nat) (p:OpenT) (f:List TermT) (at_:Int):FholdsG k F p f at_=need (0<=at_/\at_ < (f.length:Int)) (BholdsG_1 k F p (((f.getD (at_).toNat ((0:Int),((0:Int),([],([],([],[])))))).1),((((f.getD (at_).toNat ((0:Int),((0:Int),([],([],([],[])))))).2).1),(((((f.getD (at_).toNat ((0:Int),((0:Int),([],([],([],[])))))).2).2).1),((((((f.getD (at_).toNat ((0:Int),((0:Int),([],([],([],[])))))).2).2).2).1),(((((((f.getD (at_).toNat ((0:Int),((0:Int),([],([],([],[])))))).2).2).2).2).1),((((((f.getD (at_).toNat ((0:Int),((0:Int),([],([],([],[])))))).2).2).2).2).2)))))) f):=by kernel_rfl
theorem fn_holdsG (k:Nat) (hrec:SpecROk Tryz.prog 36 (sp_ctnI k)) (F:Nat) (p:OpenT) (f:List TermT) (at_:Int) (r:AV) (h:(∃ M vs,ARels γ0 M [.p (.box 10 (cell openC p)),.p (.list 6 (.dat termC f)),.p (.int .i64 at_)] vs)->FholdsG k F p f at_=some (r,[])):FnP Tryz.prog 23 [.p (.box 10 (cell openC p)),.p (.list 6 (.dat termC f)),.p (.int .i64 at_)] r:=
 FnP_run (GholdsG k) F rfl (EnvOk_mk (l:=[(38,sp_inside),(39,sp_css),(40,sp_tin),(41,sp_ctnField),(44,sp_within)]) ⟨ok_inside.any,ok_css.any,ok_tin.any,ok_ctnField.any,ok_within.any,trivial⟩) (EnvROk_mk (l:=[(36,sp_ctnI k)]) ⟨hrec,trivial⟩) (Checked.mixed Tryz.checked) (fn:=Tryz.f23) (by kernel_rfl) (by kernel_rfl) rfl h
theorem b2_eq (k F:Nat) (p:OpenT) (t:TermT) (c:Bool) (hl:leafok p t) (hc:c=(t.1==4||t.1==5)) (h1:t.1≠1) (h2:t.1≠2) (h3:t.1≠3):
 BholdsG_2 k F p t t.1 c=some (.p (.bool (hold3 p t)),[]):=by
 obtain ⟨l1,l2,l3,l4,l5,l6,l7⟩:=hl
 obtain ⟨kd,n,nm,sx,st,ks⟩:=t
 dsimp only at *
 rw [BholdsG_2_eq]
 by_cases h4:kd=4
 .subst h4; subst hc; exact need_mk l1 rfl
 by_cases h5:kd=5
 .subst h5; subst hc; exact need_mk l1 rfl
 have hf:c=false:=by rw [hc,beq_eq_false_iff_ne.2 h4,beq_eq_false_iff_ne.2 h5]; rfl
 refine cond_f hf ?_
 by_cases h6:kd=6
 .subst h6; exact need_mk l2 rfl
 refine cond_f (beq_eq_false_iff_ne.2 h6) ?_
 by_cases h7:kd=7
 .subst h7; rfl
 refine cond_f (beq_eq_false_iff_ne.2 h7) ?_
 by_cases h8:kd=8
 .subst h8; rfl
 refine cond_f (beq_eq_false_iff_ne.2 h8) ?_
 by_cases h9:kd=9
 .subst h9; rfl
 refine cond_f (beq_eq_false_iff_ne.2 h9) ?_
 by_cases h10:kd=10
 .subst h10; rfl
 refine cond_f (beq_eq_false_iff_ne.2 h10) ?_
 by_cases h11:kd=11
 .subst h11; exact need_mk ⟨l4,l5⟩ (need_mk (fun _=>⟨l6,l7⟩) rfl)
 refine cond_f (beq_eq_false_iff_ne.2 h11) ?_
 by_cases h12:kd=12
 .subst h12; exact need_mk ⟨l6,l7⟩ rfl
 refine cond_f (beq_eq_false_iff_ne.2 h12) ?_
 by_cases h13:kd=13
 .subst h13; exact need_mk ⟨l4,l5⟩ rfl
 refine cond_f (beq_eq_false_iff_ne.2 h13) ?_
 by_cases h14:kd=14
 .subst h14; exact need_mk ⟨l1,l3⟩ rfl
 refine cond_f (beq_eq_false_iff_ne.2 h14) ?_
 by_cases h15:kd=15
 .subst h15; rfl
 refine cond_f (beq_eq_false_iff_ne.2 h15) ?_
 unfold hold3 hold2 hold1
 dsimp only
 rw [if_neg h6,if_neg h11,if_neg h12,if_neg h13,if_neg h4,if_neg h5,if_neg h14,if_neg h7,if_neg h8,if_neg h9,if_neg h10,if_neg h15]
theorem b1_eq (k F:Nat) (p:OpenT) (t:TermT) (f:List TermT) (hl:leafok p t) (hk:t.1=1\/t.1=2\/t.1=3->kidsok k p f t.2.2.2.2.2):
 BholdsG_1 k F p t f=some (.p (.bool (if t.1=1 then !(t.2.2.2.2.2.any fun x=>!(hGF k p f x)) else if t.1=2 then t.2.2.2.2.2.any fun x=>hGF k p f x else if t.1=3 then !(t.2.2.2.2.2.any fun x=>hGF k p f x) else hold3 p t)),[]):=by
 rw [BholdsG_1_eq]
 by_cases h1:t.1=1
 .rw [if_pos h1]; exact cond_t (by rw [h1]; rfl) (need_mk (hk (.inl h1)) rfl)
 rw [if_neg h1]
 refine cond_f (beq_eq_false_iff_ne.2 h1) ?_
 by_cases h2:t.1=2
 .rw [if_pos h2]; exact cond_t (by rw [h2]; rfl) (need_mk (hk (.inr (.inl h2))) rfl)
 rw [if_neg h2]
 refine cond_f (beq_eq_false_iff_ne.2 h2) ?_
 by_cases h3:t.1=3
 .rw [if_pos h3]; exact cond_t (by rw [h3]; rfl) (need_mk (hk (.inr (.inr h3))) rfl)
 rw [if_neg h3]
 refine cond_f (beq_eq_false_iff_ne.2 h3) ?_
 by_cases h4:t.1=4
 .exact cond_t (by rw [h4]; rfl) (b2_eq k F p t _ hl (by rw [h4]; rfl) h1 h2 h3)
 .exact cond_f (beq_eq_false_iff_ne.2 h4) (b2_eq k F p t _ hl (by rw [beq_eq_false_iff_ne.2 h4,Bool.false_or]) h1 h2 h3)
theorem holdsG_eq (k:Nat) (p:OpenT) (f:List TermT) (a:Int) (h:hGok (k+1) p f a):FholdsG k 0 p f a=some (.p (.bool (hGF (k+1) p f a)),[]):=by
 rw [hGok] at h
 obtain ⟨h1,h2,h3⟩:=h
 rw [FholdsG_eq,hGF]
 exact need_mk h1 (b1_eq k 0 p (f.getD a.toNat dT) f h2 h3)
theorem ok_hG:∀ k,SpecOk Tryz.prog 23 (sp_hG k)
 | 0=>by
  intro zs r ok he hok
  unfold sp_hG at he
  split at he
  .split at he
   .cases he; exact absurd hok (fun h=>h)
   .cases he
  .cases he
 | k+1=>by
  have e1:=ok_kid1 k (ok_hG k)
  have e2:=ok_kid2 k e1
  have e3:=ok_ctnI k (ok_idxI k e1 e2)
  intro zs r ok he hok
  unfold sp_hG at he
  split at he
  .rename_i f R a
   split at he
   .rename_i p t hp ht
    cases he
    exact ⟨by kernel_rfl,FnP.lq (ys:=[.p (.box 10 (cell openC p)),.p (.list 6 (.dat termC t)),.p (.int .i64 a)]) ⟨Lq.box (c:=openC) hp,Lq.list (a:=termC) ht,Lq.refl _,trivial⟩
     (fn_holdsG k e3 0 p t a _ fun _=>holdsG_eq k p t a hok)⟩
   .cases he
  .cases he
end Go.Proofs.YtampckbjinodgaaGreatDoor
