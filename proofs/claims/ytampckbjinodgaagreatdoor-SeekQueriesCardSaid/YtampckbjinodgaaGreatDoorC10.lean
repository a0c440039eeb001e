/-
  Lifted functions, and facts about them.
-/
import Derived.Test.YtampckbjinodgaaGreatDoorRows
import Derived.Test.YtampckbjinodgaaGreatDoorC01
import Derived.Test.YtampckbjinodgaaGreatDoorAmC
import Derived.Test.YtampckbjinodgaaGreatDoorC09
import Derived.Test.YtampckbjinodgaaGreatDoorC05
import Derived.Shelf.Strings.Search3
set_option linter.unusedVariables false
noncomputable section
namespace Go.Proofs.YtampckbjinodgaaGreatDoor
open Go Go.Am
def Lq(x y:AV):Prop:=∀ (M:Mem) (v:Value),zp γ0 M x v->zp γ0 M y v
def Lqs:List AV->List AV->Prop
 | [],[]=>True
 | x::xs,y::ys=>Lq x y/\Lqs xs ys
 | _,_=>False
theorem Lq.refl(x:AV):Lq x x:=fun _ _ h=>h
theorem Lqs.get:∀ {xs ys:List AV},Lqs xs ys->xs.length=ys.length/\∀ i,i<xs.length->Lq (xs.getD i .any) (ys.getD i .any)
 | [],[],_=>⟨rfl,fun i hi=>absurd hi (by simp)⟩
 | x :: xs, y :: ys, h => ⟨by simp [h.2.get.1], fun i hi => by
     cases i with
     | zero=>exact h.1
     | succ i=>exact h.2.get.2 i (by simpa using hi)⟩
theorem Lqs.args{M:Mem}:∀ {xs ys:List AV} {vs:List Value},Lqs xs ys->zB γ0 M xs vs->zB γ0 M ys vs
 | [],[],_,_,h=>h
 | x::xs,y::ys,_,q,h=>by
  cases h with|cons h1 h2=>exact .cons (q.1 _ _ h1) (q.2.args h2)
theorem FnP.lq{P:Program}{f:FuncId}{xs ys:List AV}{r:AV}(h:Lqs xs ys)(k:FnP P f ys r):FnP P f xs r:=zj6 (fun _ _ hv=>h.args hv) k
theorem Lq.agg{xs ys:List AV}(h:Lqs xs ys):Lq (.agg xs) (.agg ys):=by
 intro M v hv
 obtain⟨vs,rfl,hs,ht⟩:=hv.agg_inv
 obtain⟨hl,hg⟩:=h.get
 exact .agg _ _ (by rw[hs,hl]) fun i hi=>hg i (by rw[hl];exact hi) _ _ (ht i (by rw[hl];exact hi))
theorem Lq.clo{fn:Fn}{xs ys:List AV}(h:Lqs xs ys):Lq (.clo fn [] xs) (.clo fn [] ys):=by
 intro M v hv
 cases hv with|clo _ _ _ vf vc hf hc h1 h2=>
 obtain⟨hl,hg⟩:=h.get
 exact .clo _ _ _ _ _ hf (by rw[hc,hl]) h1 fun i hi=>hg i (by rw[hl];exact hi) _ _ (h2 i (by rw[hl];exact hi))
theorem Lq.box{c:Ec}{f:Nat->PV}{x:Elt c}(h:zT c (zK f (wid c) 0)=some x):Lq (.p (.box (wid c) f)) (.p (.box (wid c) (cell c x))):=fun _ _ hv=>zvb h hv
theorem Lq.list{a:Ec}{x:PV}{l:List (Elt a)}(h:zA a x=some l):Lq (.p x) (.p (.list (wid a) (.dat a l))):=by
 intro M v hv
 cases x with
 | nil=>cases h;exact zp.nil_list (R:=.dat a []) rfl hv
 | list k R=>obtain⟨rfl,rfl⟩:=zaj h;exact hv
 | _=>cases h
abbrev mbC:Ec:=.pair (.int .i64) (.int .i64)
def yC{α:Type}(p:α->Bool):List α->Int
 | []=>-1
 | x::r=>if p x=true then 0 else if yC p r=-1 then -1 else yC p r+1
theorem zjx{α:Type}(p:α->Bool):∀ l:List α,-1<=yC p l
 | []=>by simp[yC]
 | x::r=>by
  have:=zjx p r
  rw[yC];split
  .decide
  .split <;> omega
theorem zbi{α:Type}(p:α->Bool):∀ l:List α,decide (yC p l>=(0:Int))=l.any p
 | []=>by simp[yC]
 | x::r=>by
  have h:=zbi p r
  have hg:=zjx p r
  rw[yC,List.any_cons,<-h]
  by_cases hx:p x=true
  .rw [if_pos hx,hx];simp
  .rw [if_neg hx]
   have hx:p x=false:=by simpa using hx
   rw[hx,Bool.false_or]
   split
   .rename_i h2;rw[h2]
   .congr 1;simp only[ge_iff_le,eq_iff_iff];omega
theorem zxu{α:Type}(d:α)(l:List α)(p:α->Bool)(B:Nat->Int->Option Ans)
 (h1:∀ (f i:Nat),i<l.length->B (f+1) i=cond (p (l.getD i d)) (some (.p (.int .i64 i),[])) (B f ((i:Int)+1)))
 (h0:∀ f:Nat,B (f+1) l.length=some (.p (.int .i64 (-1)),[])):
 ∀ (r:List α) (i:Nat),l.drop i=r->i+r.length=l.length->B (r.length+1) i=some (.p (.int .i64 (if yC p r=-1 then -1 else i+yC p r)),[])
 | [],i,_,hl=>by
  have:i=l.length:=by simpa using hl
  subst this
  rw[h0];rfl
 | x::r,i,hd,hl=>by
  have hi:i<l.length:=by simp at hl;omega
  have hx:l.getD i d=x:=by
   rw[List.getD_eq_getElem?_getD,<-List.head?_drop,hd];rfl
  rw[List.length_cons,h1 _ _ hi,hx,yC]
  by_cases hp:p x=true
  .rw [hp,if_pos rfl];simp
  .have hp:p x=false:=by simpa using hp
   rw[hp]
   have hr:=zxu d l p B h1 h0 r (i+1) (by rw[<-List.tail_drop,hd];rfl) (by simp at hl;omega)
   have hg:=zjx p r
   show B (r.length+1) ((i:Int)+1)=_
   rw[show((i:Int)+1)=((i+1:Nat):Int) by omega,hr]
   simp only[Bool.false_eq_true,if_false]
   by_cases hm:yC p r=-1
   .rw [if_pos hm,if_pos hm,if_pos rfl]
   .rw [if_neg hm,if_neg hm,if_neg (by omega)]
    congr 4;omega
theorem zfm{α:Type}(d:α)(l:List α)(p:α->Bool)(B:Nat->Int->Option Ans)
 (h1:∀ (f i:Nat),i<l.length->B (f+1) i=cond (p (l.getD i d)) (some (.p (.int .i64 i),[])) (B f ((i:Int)+1)))
 (h0:∀ f:Nat,B (f+1) l.length=some (.p (.int .i64 (-1)),[])) (hl:l.length<=1000000):B (l.length+1) 0=some (.p (.int .i64 (yC p l)),[]):=by
 have h:=zxu d l p B h1 h0 l 0 rfl (by simp)
 have e:(if yC p l=-1 then(-1:Int) else((0:Nat):Int)+yC p l)=yC p l:=by split <;> omega
 rw[e]at h
 exact h
def inP(b:Int)(o:Bool)(x:Int×Int):Bool:=(x.1==b) != o
def uP(x r:Int×Int):Bool:=decide (x.2>=r.1)&&decide (x.2<=r.2)
def wiP(b:Int)(st:List (Int×Int))(x:Int×Int):Bool:=(x.1==b)&&st.any (uP x)
def zyj:=mkG [] [] 11 [] [] []
def zyB(F:Nat)(x:Int×Int)(b:Int)(o:Bool):=zF zyj Tryz.f60 F [.agg [pI x.1,pI x.2],.p (.box 1 (cell (.int .i64) b)),.p (.box 1 (cell .bool o))]
theorem zyA(F x b o):zyB F x b o=some (.p (.bool ((x.1==b) != o)),[]):=by kernel_rfl
theorem zA0(F x b o r):IsP 60 (zyB F x b o) [.agg [.p (.int .i64 x.1),.p (.int .i64 x.2)],.p (.box 1 (cell (.int .i64) b)),.p (.box 1 (cell .bool o))] r:=zG zyj rfl trivial
def ziy:List AV->Option (AV×Option Prop)
 | [.agg [.p (.int .i64 a),.p (.int .i64 c)],.p (.box 1 f),.p (.box 1 g)]=>match zT (.int .i64) (zK f 1 0),zT .bool (zK g 1 0)with
  | some b,some o=>some (.p (.bool (inP b o (a,c))),none)
  | _,_=>none
 | _=>none
theorem zAx:zn Tryz.prog 60 ziy:=by
 intro zs r ok he hok
 unfold ziy at he
 split at he
 .rename_i a c f g
  split at he
  .rename_i b o hb ho
   cases he
   exact⟨by kernel_rfl,FnP.lq (ys:=[.agg [.p (.int .i64 a),.p (.int .i64 c)],.p (.box 1 (cell (.int .i64) b)),.p (.box 1 (cell .bool o))]) ⟨Lq.refl _,Lq.box (c:=.int .i64) hb,Lq.box (c:=.bool) ho,trivial⟩
    (zA0 0 (a,c) b o _ fun _=>by rw[zyA];rfl)⟩
  .cases he
 .cases he
def ztm:=mkG [] [] 16 [] [] []
def ztq(F:Nat)(rg x:Int×Int):=zF ztm Tryz.f66 F [.agg [pI rg.1,pI rg.2],.p (.box 2 (cell (.pair (.int .i64) (.int .i64)) x))]
theorem zvy(F rg x):ztq F rg x=some (.p (.bool ((decide (x.2>=rg.1))&&(decide (x.2<=rg.2)))),[]):=letI A:=(decide (x.2>=rg.1))=true;Eq.trans (by kernel_rfl) (nI A (nI A (nI A (nI A (nI A rfl)))))
theorem zxD(F rg x r):IsP 66 (ztq F rg x) [.agg [.p (.int .i64 rg.1),.p (.int .i64 rg.2)],.p (.box 2 (cell (.pair (.int .i64) (.int .i64)) x))] r:=zG ztm rfl trivial
def zf5:List AV->Option (AV×Option Prop)
 | [.agg [.p (.int .i64 a),.p (.int .i64 c)],.p (.box 2 f)]=>match zT mbC (zK f 2 0)with
  | some x=>some (.p (.bool (uP x (a,c))),none)
  | none=>none
 | _=>none
theorem zxa:zn Tryz.prog 66 zf5:=by
 intro zs r ok he hok
 unfold zf5 at he
 split at he
 .rename_i a c f
  split at he
  .rename_i x hx
   cases he
   exact⟨by kernel_rfl,FnP.lq (ys:=[.agg [.p (.int .i64 a),.p (.int .i64 c)],.p (.box 2 (cell mbC x))]) ⟨Lq.refl _,Lq.box (c:=mbC) hx,trivial⟩
    (zxD 0 (a,c) x _ fun _=>by rw[zvy];rfl)⟩
  .cases he
 .cases he
def zEj:=mkG [(66,zf5)] [] 19 [] [([0,1,0,1],⟨[0,1,7,8],[]⟩),([1,1,0,0,1,1,0,0,1,0,1],⟨[0,1,5,7,8,16],[]⟩)] []
def zhM(F f1:Nat)(l:List (Int×Int))(x:Int×Int)(vi1 vi2:Int):=zH zEj Tryz.f102 F [] [1,0,1,0] f1 [(0,pL 2 (.pair (.int .i64) (.int .i64)) l),(1,.clo (.func 66) [] [.p (.box 2 (cell (.pair (.int .i64) (.int .i64)) x))]),(7,pI vi1),(8,pI vi2)] []
def zEL(F f1:Nat)(l:List (Int×Int))(x:Int×Int)(vi2 vi1:Int)(vc3:Bool):=zx zEj Tryz.f102 F [f1] [1,0,1,0,0,1,1,0,0,1,1] [(0,pL 2 (.pair (.int .i64) (.int .i64)) l),(1,.clo (.func 66) [] [.p (.box 2 (cell (.pair (.int .i64) (.int .i64)) x))]),(5,pI vi2),(7,pI vi1),(8,pI vi2),(16,pB vc3)] []
def zMN(F:Nat)(l:List (Int×Int))(x:Int×Int):=zF zEj Tryz.f102 F [pL 2 (.pair (.int .i64) (.int .i64)) l,.clo (.func 66) [] [.p (.box 2 (cell (.pair (.int .i64) (.int .i64)) x))]]
theorem zre(F f1 l x vi1 vi2):letI A:=l.getD vi2.toNat ((0:Int),(0:Int));zhM F (f1+1) l x vi1 vi2=cond (decide (vi2<vi1)) (ze (0<=vi2/\vi2<(l.length:Int)) (zEL F f1 l x vi2 vi1 (uP x (A.1,A.2)))) (some (.p (.int .i64 (-1:Int)),[])):=by kernel_rfl
theorem zC4(F f1 l x vi2 vi1 vc3):zEL F f1 l x vi2 vi1 vc3=cond vc3 (some (.p (.int .i64 vi2),[])) (ze (zh (vi2+1)) (zhM F f1 l x vi1 (vi2+1))):=by kernel_rfl
theorem zMM(F l x):zMN F l x=zhM F F l x (l.length:Int) 0:=by kernel_rfl
theorem zPo(F l x r):IsP 102 (zMN F l x) [.p (.list 2 (.dat (.pair (.int .i64) (.int .i64)) l)),.clo (.func 66) [] [.p (.box 2 (cell (.pair (.int .i64) (.int .i64)) x))]] r:=zG zEj rfl ⟨zxa.any,trivial⟩
theorem zOL(l:List (Int×Int))(x:Int×Int)(hl:l.length<=1000000):zMN (l.length+1) l x=some (.p (.int .i64 (yC (uP x) l)),[]):=by
 rw[zMM]
 refine zfm ((0:Int),(0:Int)) l (uP x) (fun f i=>zhM (l.length+1) f l x (l.length:Int) i) (fun f i hi=>?_) (fun f=>?_) hl
 .show zhM (l.length+1) (f+1) l x (l.length:Int) (i:Int)=_
  rw[zre]
  refine zi (by simpa using hi) (zd ⟨by omega,by simpa using hi⟩ ?_)
  rw[zC4]
  show cond (uP x (l.getD i ((0:Int),(0:Int)))) _ _=_
  cases uP x (l.getD i ((0:Int),(0:Int)))with
  | true=>rfl
  | false=>exact zd ⟨by omega,by omega⟩ rfl
 .show zhM (l.length+1) (f+1) l x (l.length:Int) (l.length:Int)=_
  rw[zre]
  exact zg (by simp) rfl
def zf8:List AV->Option (AV×Option Prop)
 | [.p l,.clo (.func 66) [] [.p (.box 2 f)]]=>match zA mbC l,zT mbC (zK f 2 0)with
  | some l,some x=>some (.p (.int .i64 (yC (uP x) l)),some (l.length<=1000000))
  | _,_=>none
 | _=>none
theorem zxf:zn Tryz.prog 102 zf8:=by
 intro zs r ok he hok
 unfold zf8 at he
 split at he
 .rename_i l' f
  split at he
  .rename_i l x hl hx
   cases he
   have hok:l.length<=1000000:=hok
   exact⟨by kernel_rfl,FnP.lq (ys:=[.p (.list 2 (.dat mbC l)),.clo (.func 66) [] [.p (.box 2 (cell mbC x))]]) ⟨Lq.list (a:=mbC) hl,Lq.clo ⟨Lq.box (c:=mbC) hx,trivial⟩,trivial⟩
    (zPo (l.length+1) l x _ fun _=>zOL l x hok)⟩
  .cases he
 .cases he
def zQ5:=mkG [(102,zf8)] [] 9 [] [] []
def zM4(F:Nat)(l:List (Int×Int))(x:Int×Int):=zF zQ5 Tryz.f65 F [pL 2 (.pair (.int .i64) (.int .i64)) l,.clo (.func 66) [] [.p (.box 2 (cell (.pair (.int .i64) (.int .i64)) x))]]
theorem zM3(F l x):zM4 F l x=ze (l.length<=1000000) (some (.p (.bool (decide ((yC (uP x) l)>=0))),[])):=by kernel_rfl
theorem zPv(F l x r):IsP 65 (zM4 F l x) [.p (.list 2 (.dat (.pair (.int .i64) (.int .i64)) l)),.clo (.func 66) [] [.p (.box 2 (cell (.pair (.int .i64) (.int .i64)) x))]] r:=zG zQ5 rfl ⟨zxf.any,trivial⟩
theorem zPH(l:List (Int×Int))(x:Int×Int)(hl:l.length<=1000000):zM4 0 l x=some (.p (.bool (l.any (uP x))),[]):=by
 rw[zM3,<-zbi]
 exact zd hl rfl
def zgb:List AV->Option (AV×Option Prop)
 | [.p l,.clo (.func 66) [] [.p (.box 2 f)]]=>match zA mbC l,zT mbC (zK f 2 0)with
  | some l,some x=>some (.p (.bool (l.any (uP x))),some (l.length<=1000000))
  | _,_=>none
 | _=>none
theorem zxg:zn Tryz.prog 65 zgb:=by
 intro zs r ok he hok
 unfold zgb at he
 split at he
 .rename_i l' f
  split at he
  .rename_i l x hl hx
   cases he
   have hok:l.length<=1000000:=hok
   exact⟨by kernel_rfl,FnP.lq (ys:=[.p (.list 2 (.dat mbC l)),.clo (.func 66) [] [.p (.box 2 (cell mbC x))]]) ⟨Lq.list (a:=mbC) hl,Lq.clo ⟨Lq.box (c:=mbC) hx,trivial⟩,trivial⟩
    (zPv 0 l x _ fun _=>zPH l x hok)⟩
  .cases he
 .cases he
def zyf:=mkG [(65,zgb)] [] 14 [] [] [([888888,1],[3,46])]
def zyo(F:Nat)(x:Int×Int)(b:Int)(st:List (Int×Int)):=zF zyf Tryz.f64 F [.agg [pI x.1,pI x.2],.p (.box 1 (cell (.int .i64) b)),.p (.box 1 (cell (.list (.pair (.int .i64) (.int .i64))) st))]
theorem zyn(F x b st):zyo F x b st=ze ((x.1==b)=true->st.length<=1000000) (some (.p (.bool ((x.1==b)&&(st.any (uP (x.1,x.2))))),[])):=letI A:=(x.1==b)=true;Eq.trans (by kernel_rfl) (nI A (nI A (zf (nI A rfl))))
theorem zAQ(F x b st r):IsP 64 (zyo F x b st) [.agg [.p (.int .i64 x.1),.p (.int .i64 x.2)],.p (.box 1 (cell (.int .i64) b)),.p (.box 1 (cell (.list (.pair (.int .i64) (.int .i64))) st))] r:=zG zyf rfl ⟨zxg.any,trivial⟩
def zis:List AV->Option (AV×Option Prop)
 | [.agg [.p (.int .i64 a),.p (.int .i64 c)],.p (.box 1 f),.p (.box 1 g)]=>match zT (.int .i64) (zK f 1 0),zT (.list mbC) (zK g 1 0)with
  | some b,some st=>some (.p (.bool (wiP b st (a,c))),some (List.length (α:=Int×Int) st<=1000000))
  | _,_=>none
 | _=>none
theorem zAp:zn Tryz.prog 64 zis:=by
 intro zs r ok he hok
 unfold zis at he
 split at he
 .rename_i a c f g
  split at he
  .rename_i b st hb hs
   cases he
   exact⟨by kernel_rfl,FnP.lq (ys:=[.agg [.p (.int .i64 a),.p (.int .i64 c)],.p (.box 1 (cell (.int .i64) b)),.p (.box 1 (cell (.list mbC) st))]) ⟨Lq.refl _,Lq.box (c:=.int .i64) hb,Lq.box (c:=.list mbC) hs,trivial⟩
    (zAQ 0 (a,c) b st _ fun _=>by rw[zyn];exact zd (fun _=>hok) rfl)⟩
  .cases he
 .cases he
def zvv:=mkG [(60,ziy)] [] 19 [] [([0,1,0,1],⟨[0,1,7,8],[]⟩),([1,1,0,0,1,1,0,0,1,0,1],⟨[0,1,5,7,8,16],[]⟩)] []
def ze3(F f1:Nat)(l:List (Int×Int))(b:Int)(o:Bool)(vi1 vi2:Int):=zH zvv Tryz.f100 F [] [1,0,1,0] f1 [(0,pL 2 (.pair (.int .i64) (.int .i64)) l),(1,.clo (.func 60) [] [.p (.box 1 (cell (.int .i64) b)),.p (.box 1 (cell .bool o))]),(7,pI vi1),(8,pI vi2)] []
def zzi(F f1:Nat)(l:List (Int×Int))(b:Int)(o:Bool)(vi2 vi1:Int)(vc3:Bool):=zx zvv Tryz.f100 F [f1] [1,0,1,0,0,1,1,0,0,1,1] [(0,pL 2 (.pair (.int .i64) (.int .i64)) l),(1,.clo (.func 60) [] [.p (.box 1 (cell (.int .i64) b)),.p (.box 1 (cell .bool o))]),(5,pI vi2),(7,pI vi1),(8,pI vi2),(16,pB vc3)] []
def zCa(F:Nat)(l:List (Int×Int))(b:Int)(o:Bool):=zF zvv Tryz.f100 F [pL 2 (.pair (.int .i64) (.int .i64)) l,.clo (.func 60) [] [.p (.box 1 (cell (.int .i64) b)),.p (.box 1 (cell .bool o))]]
theorem zne(F f1 l b o vi1 vi2):letI A:=l.getD vi2.toNat ((0:Int),(0:Int));ze3 F (f1+1) l b o vi1 vi2=cond (decide (vi2<vi1)) (ze (0<=vi2/\vi2<(l.length:Int)) (zzi F f1 l b o vi2 vi1 (inP b o (A.1,A.2)))) (some (.p (.int .i64 (-1:Int)),[])):=by kernel_rfl
theorem zzh(F f1 l b o vi2 vi1 vc3):zzi F f1 l b o vi2 vi1 vc3=cond vc3 (some (.p (.int .i64 vi2),[])) (ze (zh (vi2+1)) (ze3 F f1 l b o vi1 (vi2+1))):=by kernel_rfl
theorem zHl(F l b o):zCa F l b o=ze3 F F l b o (l.length:Int) 0:=by kernel_rfl
theorem zKa(F l b o r):IsP 100 (zCa F l b o) [.p (.list 2 (.dat (.pair (.int .i64) (.int .i64)) l)),.clo (.func 60) [] [.p (.box 1 (cell (.int .i64) b)),.p (.box 1 (cell .bool o))]] r:=zG zvv rfl ⟨zAx.any,trivial⟩
theorem zJF(l:List (Int×Int))(b:Int)(o:Bool)(hl:l.length<=1000000):zCa (l.length+1) l b o=some (.p (.int .i64 (yC (inP b o) l)),[]):=by
 rw[zHl]
 refine zfm ((0:Int),(0:Int)) l (inP b o) (fun f i=>ze3 (l.length+1) f l b o (l.length:Int) i) (fun f i hi=>?_) (fun f=>?_) hl
 .show ze3 (l.length+1) (f+1) l b o (l.length:Int) (i:Int)=_
  rw[zne]
  refine zi (by simpa using hi) (zd ⟨by omega,by simpa using hi⟩ ?_)
  rw[zzh]
  show cond (inP b o (l.getD i ((0:Int),(0:Int)))) _ _=_
  cases inP b o (l.getD i ((0:Int),(0:Int)))with
  | true=>rfl
  | false=>exact zd ⟨by omega,by omega⟩ rfl
 .show ze3 (l.length+1) (f+1) l b o (l.length:Int) (l.length:Int)=_
  rw[zne]
  exact zg (by simp) rfl
def zvu:=mkG [(64,zis)] [] 19 [] [([0,1,0,1],⟨[0,1,7,8],[]⟩),([1,1,0,0,1,1,0,0,1,0,1],⟨[0,1,5,7,8,16],[]⟩)] []
def ze2(F f1:Nat)(l:List (Int×Int))(b:Int)(st:List (Int×Int))(vi1 vi2:Int):=zH zvu Tryz.f100 F [] [1,0,1,0] f1 [(0,pL 2 (.pair (.int .i64) (.int .i64)) l),(1,.clo (.func 64) [] [.p (.box 1 (cell (.int .i64) b)),.p (.box 1 (cell (.list (.pair (.int .i64) (.int .i64))) st))]),(7,pI vi1),(8,pI vi2)] []
def zzg(F f1:Nat)(l:List (Int×Int))(b:Int)(st:List (Int×Int))(vi2 vi1:Int)(vc3:Bool):=zx zvu Tryz.f100 F [f1] [1,0,1,0,0,1,1,0,0,1,1] [(0,pL 2 (.pair (.int .i64) (.int .i64)) l),(1,.clo (.func 64) [] [.p (.box 1 (cell (.int .i64) b)),.p (.box 1 (cell (.list (.pair (.int .i64) (.int .i64))) st))]),(5,pI vi2),(7,pI vi1),(8,pI vi2),(16,pB vc3)] []
def zB9(F:Nat)(l:List (Int×Int))(b:Int)(st:List (Int×Int)):=zF zvu Tryz.f100 F [pL 2 (.pair (.int .i64) (.int .i64)) l,.clo (.func 64) [] [.p (.box 1 (cell (.int .i64) b)),.p (.box 1 (cell (.list (.pair (.int .i64) (.int .i64))) st))]]
theorem znd(F f1 l b st vi1 vi2):letI A:=l.getD vi2.toNat ((0:Int),(0:Int));ze2 F (f1+1) l b st vi1 vi2=cond (decide (vi2<vi1)) (ze (0<=vi2/\vi2<(l.length:Int)) (ze (st.length<=1000000) (zzg F f1 l b st vi2 vi1 (wiP b st (A.1,A.2))))) (some (.p (.int .i64 (-1:Int)),[])):=by kernel_rfl
theorem zzf(F f1 l b st vi2 vi1 vc3):zzg F f1 l b st vi2 vi1 vc3=cond vc3 (some (.p (.int .i64 vi2),[])) (ze (zh (vi2+1)) (ze2 F f1 l b st vi1 (vi2+1))):=by kernel_rfl
theorem zHk(F l b st):zB9 F l b st=ze2 F F l b st (l.length:Int) 0:=by kernel_rfl
theorem zJ9(F l b st r):IsP 100 (zB9 F l b st) [.p (.list 2 (.dat (.pair (.int .i64) (.int .i64)) l)),.clo (.func 64) [] [.p (.box 1 (cell (.int .i64) b)),.p (.box 1 (cell (.list (.pair (.int .i64) (.int .i64))) st))]] r:=zG zvu rfl ⟨zAp.any,trivial⟩
theorem zJE(l:List (Int×Int))(b:Int)(st:List (Int×Int))(hl:l.length<=1000000)(hc:st.length<=1000000):zB9 (l.length+1) l b st=some (.p (.int .i64 (yC (wiP b st) l)),[]):=by
 rw[zHk]
 refine zfm ((0:Int),(0:Int)) l (wiP b st) (fun f i=>ze2 (l.length+1) f l b st (l.length:Int) i) (fun f i hi=>?_) (fun f=>?_) hl
 .show ze2 (l.length+1) (f+1) l b st (l.length:Int) (i:Int)=_
  rw[znd]
  refine zi (by simpa using hi) (zd ⟨by omega,by simpa using hi⟩ (zd hc ?_))
  rw[zzf]
  show cond (wiP b st (l.getD i ((0:Int),(0:Int)))) _ _=_
  cases wiP b st (l.getD i ((0:Int),(0:Int)))with
  | true=>rfl
  | false=>exact zd ⟨by omega,by omega⟩ rfl
 .show ze2 (l.length+1) (f+1) l b st (l.length:Int) (l.length:Int)=_
  rw[znd]
  exact zg (by simp) rfl
def zcU:List AV->Option (AV×Option Prop)
 | [.p l,.clo (.func n) [] [.p (.box 1 f),.p (.box 1 g)]]=>
  match Nat.beq n 60,Nat.beq n 64 with
  | true,_=>match zA mbC l,zT (.int .i64) (zK f 1 0),zT .bool (zK g 1 0)with
   | some l,some b,some o=>some (.p (.int .i64 (yC (inP b o) l)),some (l.length<=1000000))
   | _,_,_=>none
  | _,true=>match zA mbC l,zT (.int .i64) (zK f 1 0),zT (.list mbC) (zK g 1 0)with
   | some l,some b,some st=>some (.p (.int .i64 (yC (wiP b st) l)),some (l.length<=1000000/\List.length (α:=Int×Int) st<=1000000))
   | _,_,_=>none
  | _,_=>none
 | _=>none
theorem zjn:zn Tryz.prog 100 zcU:=by
 intro zs r ok he hok
 unfold zcU at he
 split at he
 .rename_i l' n f g
  split at he
  .rename_i hn
   obtain rfl:=Nat.eq_of_beq_eq_true hn
   split at he
   .rename_i l b o hl hb ho
    cases he
    have hok:l.length<=1000000:=hok
    exact⟨by kernel_rfl,FnP.lq (ys:=[.p (.list 2 (.dat mbC l)),.clo (.func 60) [] [.p (.box 1 (cell (.int .i64) b)),.p (.box 1 (cell .bool o))]]) ⟨Lq.list (a:=mbC) hl,Lq.clo ⟨Lq.box (c:=.int .i64) hb,Lq.box (c:=.bool) ho,trivial⟩,trivial⟩
     (zKa (l.length+1) l b o _ fun _=>zJF l b o hok)⟩
   .cases he
  .rename_i hn _
   obtain rfl:=Nat.eq_of_beq_eq_true hn
   split at he
   .rename_i l b st hl hb hs
    cases he
    obtain⟨hok,hst⟩:l.length<=1000000/\List.length (α:=Int×Int) st<=1000000:=hok
    exact⟨by kernel_rfl,FnP.lq (ys:=[.p (.list 2 (.dat mbC l)),.clo (.func 64) [] [.p (.box 1 (cell (.int .i64) b)),.p (.box 1 (cell (.list mbC) st))]]) ⟨Lq.list (a:=mbC) hl,Lq.clo ⟨Lq.box (c:=.int .i64) hb,Lq.box (c:=.list mbC) hs,trivial⟩,trivial⟩
     (zJ9 (l.length+1) l b st _ fun _=>zJE l b st hok hst)⟩
   .cases he
  .cases he
 .cases he
def zLM:=mkG [(100,zcU)] [] 9 [] [] []
def zCn(F:Nat)(l:List (Int×Int))(b:Int)(o:Bool):=zF zLM Tryz.f59 F [pL 2 (.pair (.int .i64) (.int .i64)) l,.clo (.func 60) [] [.p (.box 1 (cell (.int .i64) b)),.p (.box 1 (cell .bool o))]]
theorem zHy(F l b o):zCn F l b o=ze (l.length<=1000000) (some (.p (.bool (decide ((yC (inP b o) l)>=0))),[])):=by kernel_rfl
theorem zKo(F l b o r):IsP 59 (zCn F l b o) [.p (.list 2 (.dat (.pair (.int .i64) (.int .i64)) l)),.clo (.func 60) [] [.p (.box 1 (cell (.int .i64) b)),.p (.box 1 (cell .bool o))]] r:=zG zLM rfl ⟨zjn.any,trivial⟩
theorem zKR(l:List (Int×Int))(b:Int)(o:Bool)(hl:l.length<=1000000):zCn 0 l b o=some (.p (.bool (l.any (inP b o))),[]):=by
 rw[zHy,<-zbi]
 exact zd hl rfl
def zLL:=mkG [(100,zcU)] [] 9 [] [] []
def zCm(F:Nat)(l:List (Int×Int))(b:Int)(st:List (Int×Int)):=zF zLL Tryz.f59 F [pL 2 (.pair (.int .i64) (.int .i64)) l,.clo (.func 64) [] [.p (.box 1 (cell (.int .i64) b)),.p (.box 1 (cell (.list (.pair (.int .i64) (.int .i64))) st))]]
theorem zHx(F l b st):zCm F l b st=ze (l.length<=1000000/\st.length<=1000000) (some (.p (.bool (decide ((yC (wiP b st) l)>=0))),[])):=by kernel_rfl
theorem zKn(F l b st r):IsP 59 (zCm F l b st) [.p (.list 2 (.dat (.pair (.int .i64) (.int .i64)) l)),.clo (.func 64) [] [.p (.box 1 (cell (.int .i64) b)),.p (.box 1 (cell (.list (.pair (.int .i64) (.int .i64))) st))]] r:=zG zLL rfl ⟨zjn.any,trivial⟩
theorem zKQ(l:List (Int×Int))(b:Int)(st:List (Int×Int))(hl:l.length<=1000000)(hc:st.length<=1000000):zCm 0 l b st=some (.p (.bool (l.any (wiP b st))),[]):=by
 rw[zHx,<-zbi]
 exact zd ⟨hl,hc⟩ rfl
def zcV:List AV->Option (AV×Option Prop)
 | [.p l,.clo (.func n) [] [.p (.box 1 f),.p (.box 1 g)]]=>
  match Nat.beq n 60,Nat.beq n 64 with
  | true,_=>match zA mbC l,zT (.int .i64) (zK f 1 0),zT .bool (zK g 1 0)with
   | some l,some b,some o=>some (.p (.bool (l.any (inP b o))),some (l.length<=1000000))
   | _,_,_=>none
  | _,true=>match zA mbC l,zT (.int .i64) (zK f 1 0),zT (.list mbC) (zK g 1 0)with
   | some l,some b,some st=>some (.p (.bool (l.any (wiP b st))),some (l.length<=1000000/\List.length (α:=Int×Int) st<=1000000))
   | _,_,_=>none
  | _,_=>none
 | _=>none
theorem zjo:zn Tryz.prog 59 zcV:=by
 intro zs r ok he hok
 unfold zcV at he
 split at he
 .rename_i l' n f g
  split at he
  .rename_i hn
   obtain rfl:=Nat.eq_of_beq_eq_true hn
   split at he
   .rename_i l b o hl hb ho
    cases he
    have hok:l.length<=1000000:=hok
    exact⟨by kernel_rfl,FnP.lq (ys:=[.p (.list 2 (.dat mbC l)),.clo (.func 60) [] [.p (.box 1 (cell (.int .i64) b)),.p (.box 1 (cell .bool o))]]) ⟨Lq.list (a:=mbC) hl,Lq.clo ⟨Lq.box (c:=.int .i64) hb,Lq.box (c:=.bool) ho,trivial⟩,trivial⟩
     (zKo 0 l b o _ fun _=>zKR l b o hok)⟩
   .cases he
  .rename_i hn _
   obtain rfl:=Nat.eq_of_beq_eq_true hn
   split at he
   .rename_i l b st hl hb hs
    cases he
    obtain⟨hok,hst⟩:l.length<=1000000/\List.length (α:=Int×Int) st<=1000000:=hok
    exact⟨by kernel_rfl,FnP.lq (ys:=[.p (.list 2 (.dat mbC l)),.clo (.func 64) [] [.p (.box 1 (cell (.int .i64) b)),.p (.box 1 (cell (.list mbC) st))]]) ⟨Lq.list (a:=mbC) hl,Lq.clo ⟨Lq.box (c:=.int .i64) hb,Lq.box (c:=.list mbC) hs,trivial⟩,trivial⟩
     (zKn 0 l b st _ fun _=>zKQ l b st hok hst)⟩
   .cases he
  .cases he
 .cases he
def zEi:=mkG [(59,zcV)] [] 14 [] [] [([888888,1],[4,4,5,5])]
def zEw(F:Nat)(p:yd)(b:Int)(o:Bool):=zF zEi Tryz.f38 F [.p (.box 10 (cell zD p)),pI b,pB o]
theorem zB8(F p b o):zEw F p b o=ze (p.1.2.2.2.2.2.1.length<=1000000) (some (.p (.bool (p.1.2.2.2.2.2.1.any (inP b o))),[])):=by kernel_rfl
theorem zGo(F p b o r):IsP 38 (zEw F p b o) [.p (.box 10 (cell zD p)),.p (.int .i64 b),.p (.bool o)] r:=zG zEi rfl ⟨zjo.any,trivial⟩
def zEa:=mkG [(59,zcV)] [] 14 [] [] [([888888,1],[4,4,5,37])]
def zEs(F:Nat)(p:yd)(b:Int)(st:List (Int×Int)):=zF zEa Tryz.f44 F [.p (.box 10 (cell zD p)),pI b,pL 2 (.pair (.int .i64) (.int .i64)) st]
theorem zBD(F p b st):zEs F p b st=ze (p.1.2.2.2.2.2.1.length<=1000000/\st.length<=1000000) (some (.p (.bool (p.1.2.2.2.2.2.1.any (wiP b st))),[])):=by kernel_rfl
theorem zF4(F p b st r):IsP 44 (zEs F p b st) [.p (.box 10 (cell zD p)),.p (.int .i64 b),.p (.list 2 (.dat (.pair (.int .i64) (.int .i64)) st))] r:=zG zEa rfl ⟨zjo.any,trivial⟩
def zlu:List AV->Option (AV×Option Prop)
 | [.p (.box 10 f),.p (.int .i64 b),.p (.bool o)]=>match zT zD (zK f 10 0)with
  | some p=>some (.p (.bool (p.1.2.2.2.2.2.1.any (inP b o))),some (p.1.2.2.2.2.2.1.length<=1000000))
  | none=>none
 | _=>none
theorem zFF:zn Tryz.prog 38 zlu:=by
 intro zs r ok he hok
 unfold zlu at he
 split at he
 .rename_i f b o
  split at he
  .rename_i p hp
   cases he
   exact⟨by kernel_rfl,FnP.lq (ys:=[.p (.box 10 (cell zD p)),.p (.int .i64 b),.p (.bool o)]) ⟨Lq.box (c:=zD) hp,Lq.refl _,Lq.refl _,trivial⟩
    (zGo 0 p b o _ fun _=>by rw[zB8];exact zd hok rfl)⟩
  .cases he
 .cases he
def zle:List AV->Option (AV×Option Prop)
 | [.p (.box 10 f),.p (.int .i64 b),.p st]=>match zT zD (zK f 10 0),zA mbC st with
  | some p,some st=>some (.p (.bool (p.1.2.2.2.2.2.1.any (wiP b st))),some (p.1.2.2.2.2.2.1.length<=1000000/\st.length<=1000000))
  | _,_=>none
 | _=>none
theorem zFp:zn Tryz.prog 44 zle:=by
 intro zs r ok he hok
 unfold zle at he
 split at he
 .rename_i f b st'
  split at he
  .rename_i p st hp hs
   cases he
   exact⟨by kernel_rfl,FnP.lq (ys:=[.p (.box 10 (cell zD p)),.p (.int .i64 b),.p (.list 2 (.dat mbC st))]) ⟨Lq.box (c:=zD) hp,Lq.refl _,Lq.list (a:=mbC) hs,trivial⟩
    (zF4 0 p b st _ fun _=>by rw[zBD];exact zd hok rfl)⟩
  .cases he
 .cases he
def zgl(p:yd)(t:zr):Bool:=
 if t.1=4 then p.1.2.2.2.2.2.1.any (inP t.2.1 false) else if t.1=5 then p.1.2.2.2.2.2.1.any (inP t.2.1 true) else if t.1=14 then p.1.2.2.2.2.2.1.any (wiP t.2.1 t.2.2.2.2.1) else
 if t.1=7 then decide (p.1.2.2.2.1<t.2.1) else if t.1=8 then decide (p.1.2.2.2.1>=t.2.1) else if t.1=9 then decide ((p.1.2.2.1.length:Int)>=t.2.1) else
 if t.1=10 then decide ((p.1.2.2.1.length:Int)<t.2.1) else if t.1=15 then decide (p.1.2.2.2.2.2.2.1>=t.2.1) else false
end Go.Proofs.YtampckbjinodgaaGreatDoor
namespace Go.Proofs.YtampckbjinodgaaGreatDoor
open Go Go.Am
end Go.Proofs.YtampckbjinodgaaGreatDoor
namespace Go.Proofs.YtampckbjinodgaaGreatDoor
open Go.Shelf
def lays144_ren : Go.Shelf.Ren:=⟨fun |144=>62|143=>101|219=>134|217=>108|225=>160|224=>161|267=>162|266=>140|314=>180|n=>n, fun |9=>9|4=>4|3=>3|5=>5|46=>172|146=>219|51=>153|n=>n, fun |1=>0|n=>n⟩
theorem lays144 : Go.Proofs.Lays.n144 Tryz.prog lays144_ren:={
 mixed:=by kernel_rfl
 f143:=Tryz.func101.trans (congrArg some (by kernel_rfl))
 f144:=Tryz.func62.trans (congrArg some (by kernel_rfl))
 f217:=Tryz.func108.trans (congrArg some (by kernel_rfl))
 f219:=Tryz.func134.trans (congrArg some (by kernel_rfl))
 f224:=Tryz.func161.trans (congrArg some (by kernel_rfl))
 f225:=Tryz.func160.trans (congrArg some (by kernel_rfl))
 f266:=Tryz.func140.trans (congrArg some (by kernel_rfl))
 f267:=Tryz.func162.trans (congrArg some (by kernel_rfl))
 f314:=Tryz.func180.trans (congrArg some (by kernel_rfl))
 t3:=Tryz.underlying3
 a3:=Tryz.isAgg3
 z3:=Tryz.sizeOf3
 v3:=Tryz.zeroValue3
 t4:=Tryz.underlying4
 a4:=Tryz.isAgg4
 z4:=Tryz.sizeOf4
 v4:=Tryz.zeroValue4
 t5:=Tryz.underlying5
 a5:=Tryz.isAgg5
 z5:=Tryz.sizeOf5
 v5:=Tryz.zeroValue5
 t9:=Tryz.underlying9
 a9:=Tryz.isAgg9
 z9:=Tryz.sizeOf9
 v9:=Tryz.zeroValue9
 t46:=Tryz.underlying172
 a46:=Tryz.isAgg172
 z46:=Tryz.sizeOf172
 v46:=Tryz.zeroValue172
 t51:=Tryz.underlying153
 a51:=Tryz.isAgg153
 z51:=Tryz.sizeOf153
 v51:=Tryz.zeroValue153
 t146:=Tryz.underlying219
 a146:=Tryz.isAgg219
 z146:=Tryz.sizeOf219
 v146:=Tryz.zeroValue219
 g1:=by kernel_rfl }
end Go.Proofs.YtampckbjinodgaaGreatDoor
namespace Go.Proofs.YtampckbjinodgaaGreatDoor
open Go Go.Am Go.Shelf
abbrev zcK:Ec:=.pair .str .str
def inS(s u:List UInt8):Bool:=Lib.contains (zL s) (zL u)
def zfc:List AV->Option (AV×Option Prop)
 | [.p (.str s),.p (.str t)]=>some (.p (.bool (Lib.contains s t)),some (s.length<=1000000))
 | _=>none
theorem zuv:zn Tryz.prog 62 zfc:=by
 intro zs r ok he hok
 unfold zfc at he
 split at he
 .rename_i s t
  cases he
  refine⟨by kernel_rfl,fun M w vs hM hvs=>?_⟩
  cases hvs with|cons h1 h2=>
  cases h2 with|cons h2 h3=>
  cases h3
  cases h1 with|p _ _ h1=>
  cases h2 with|p _ _ h2=>
  cases h1 with|str _ hs=>
  cases h2 with|str _ hc=>
  have hok:s.length<=1000000:=hok
  obtain⟨m,hm⟩:=hM.good 0 (List.mem_singleton.2 rfl)
  have hm':w.cell? ⟨(lays144_ren.g 1),0,none⟩=some (.int .i64 m):=hM.cell 0 0 _ hm
  have hcon:=Any.strings_Contains lays144 ⟨s.toArray⟩ ⟨t.toArray⟩ m w (by show s.toArray.size<_;simp;omega) hm'
  refine Calls.mono hcon fun e w' ⟨he,hw⟩=>?_
  subst hw
  exact⟨_,M,he,MLe.refl M,fun _ _=>rfl,hM,.p _ _ (.bool _),RowKit.Below.refl _ _⟩
 .cases he
def Gtin:=mkG [(27,zcW),(62,zfc)] [] 10 [] [] []
def zS2(F:Nat)(s u:List UInt8):=zF Gtin Tryz.f40 F [pS s,pS u]
theorem zQc(F s u):zS2 F s u=ze (s.length<=140737488355328) (ze (u.length<=140737488355328) (ze ((zL s).length<=1000000) (some (.p (.bool (Lib.contains (zL s) (zL u))),[])))):=by kernel_rfl
theorem zSn(F s u r):IsP 40 (zS2 F s u) [.p (.str s),.p (.str u)] r:=zG Gtin rfl ⟨zfg.any,zuv.any,trivial⟩
theorem zNq(s:List UInt8):(zL s).length=s.length:=by simp[zL]
theorem zRs(s u:List UInt8)(h:s.length<=1000000/\u.length<=1000000):zS2 0 s u=some (.p (.bool (inS s u)),[]):=by
 rw[zQc]
 exact zd (by omega) (zd (by omega) (zd (by rw[zNq];exact h.1) rfl))
def zoA:List AV->Option (AV×Option Prop)
 | [.p (.str s),.p (.str u)]=>some (.p (.bool (inS s u)),some (s.length<=1000000/\u.length<=1000000))
 | _=>none
theorem zAq:zn Tryz.prog 40 zoA:=by
 intro zs r ok he hok
 unfold zoA at he
 split at he
 .cases he;exact⟨by kernel_rfl,zSn 0 _ _ _ fun hx=>zRs _ _ hok⟩
 .cases he
abbrev fok(t:zr)(g:List UInt8×List UInt8):Prop:=g.1.length<=1000000/\g.2.length<=1000000/\t.2.2.1.length<=1000000/\t.2.2.2.1.length<=1000000
def tP(t:zr)(g:List UInt8×List UInt8):Bool:=inS g.2 t.2.2.2.1
def hP(t:zr)(g:List UInt8×List UInt8):Bool:=(zL g.1==zL t.2.2.1)&&inS g.2 t.2.2.2.1
def zLG:=mkG [(40,zoA)] [] 9 [] [] []
def zMT(F:Nat)(g:List UInt8×List UInt8)(t:zr):=zF zLG Tryz.f42 F [.agg [pS g.1,pS g.2],.p (.box 6 (cell zu t))]
theorem zHq(F g t):zMT F g t=ze (g.2.length<=1000000/\t.2.2.2.1.length<=1000000) (some (.p (.bool (inS g.2 t.2.2.2.1)),[])):=by kernel_rfl
theorem zKf(F g t r):IsP 42 (zMT F g t) [.agg [.p (.str g.1),.p (.str g.2)],.p (.box 6 (cell zu t))] r:=zG zLG rfl ⟨zAq.any,trivial⟩
def zoO:List AV->Option (AV×Option Prop)
 | [.agg [.p (.str a),.p (.str c)],.p (.box 6 f)]=>match zT zu (zK f 6 0)with
  | some t=>some (.p (.bool (tP t (a,c))),some (fok t (a,c)))
  | none=>none
 | _=>none
theorem zI5:zn Tryz.prog 42 zoO:=by
 intro zs r ok he hok
 unfold zoO at he
 split at he
 .rename_i a c f
  split at he
  .rename_i t ht
   cases he
   have hok:fok t (a,c):=hok
   exact⟨by kernel_rfl,FnP.lq (ys:=[.agg [.p (.str a),.p (.str c)],.p (.box 6 (cell zu t))]) ⟨Lq.refl _,Lq.box (c:=zu) ht,trivial⟩
    (zKf 0 (a,c) t _ fun _=>by rw[zHq];exact zd ⟨hok.2.1,hok.2.2.2⟩ rfl)⟩
  .cases he
 .cases he
def zLF:=mkG [(27,zcW),(40,zoA)] [] 18 [] [] []
def zMS(F:Nat)(g:List UInt8×List UInt8)(t:zr):=zF zLF Tryz.f43 F [.agg [pS g.1,pS g.2],.p (.box 6 (cell zu t))]
theorem zHp(F g t):letI A:=(zL g.1)==(zL t.2.2.1);zMS F g t=ze (g.1.length<=140737488355328) (ze (t.2.2.1.length<=140737488355328) (ze (A=true->g.2.length<=1000000/\t.2.2.2.1.length<=1000000) (some (.p (.bool (A&&(inS g.2 t.2.2.2.1))),[])))):=letI A:=((zL g.1)==(zL t.2.2.1))=true;Eq.trans (by kernel_rfl) (zf (zf (nI A (nI A (nI A (nI A (zf (nI A rfl))))))))
theorem zKe(F g t r):IsP 43 (zMS F g t) [.agg [.p (.str g.1),.p (.str g.2)],.p (.box 6 (cell zu t))] r:=zG zLF rfl ⟨zfg.any,zAq.any,trivial⟩
def zoN:List AV->Option (AV×Option Prop)
 | [.agg [.p (.str a),.p (.str c)],.p (.box 6 f)]=>match zT zu (zK f 6 0)with
  | some t=>some (.p (.bool (hP t (a,c))),some (fok t (a,c)))
  | none=>none
 | _=>none
theorem zI4:zn Tryz.prog 43 zoN:=by
 intro zs r ok he hok
 unfold zoN at he
 split at he
 .rename_i a c f
  split at he
  .rename_i t ht
   cases he
   have hok:fok t (a,c):=hok
   exact⟨by kernel_rfl,FnP.lq (ys:=[.agg [.p (.str a),.p (.str c)],.p (.box 6 (cell zu t))]) ⟨Lq.refl _,Lq.box (c:=zu) ht,trivial⟩
    (zKe 0 (a,c) t _ fun _=>by rw[zHp];exact zd (by have:=hok.1;omega) (zd (by have:=hok.2.2.1;omega) (zd (fun _=>⟨hok.2.1,hok.2.2.2⟩) rfl)))⟩
  .cases he
 .cases he
def zBy:=mkG [(42,zoO)] [] 19 [] [([0,1,0,1],⟨[0,1,7,8],[]⟩)] []
def ze5(F f1:Nat)(l:List (List UInt8×List UInt8))(t:zr)(vi1 vi2:Int):=zH zBy Tryz.f63 F [] [1,0,1,0] f1 [(0,pL 2 (.pair .str .str) l),(1,.clo (.func 42) [] [.p (.box 6 (cell zu t))]),(7,pI vi1),(8,pI vi2)] []
def zCc(F:Nat)(l:List (List UInt8×List UInt8))(t:zr):=zF zBy Tryz.f63 F [pL 2 (.pair .str .str) l,.clo (.func 42) [] [.p (.box 6 (cell zu t))]]
theorem zng(F f1 l t vi1 vi2):letI A:=l.getD vi2.toNat ([],[]);ze5 F (f1+1) l t vi1 vi2=cond (decide (vi2<vi1)) (ze (0<=vi2/\vi2<(l.length:Int)) (ze (fok t (A.1,A.2)) (cond (tP t (A.1,A.2)) (some (.p (.int .i64 vi2),[])) (ze (zh (vi2+1)) (ze5 F f1 l t vi1 (vi2+1)))))) (some (.p (.int .i64 (-1:Int)),[])):=by kernel_rfl
theorem zHn(F l t):zCc F l t=ze5 F F l t (l.length:Int) 0:=by kernel_rfl
theorem zKc(F l t r):IsP 63 (zCc F l t) [.p (.list 2 (.dat (.pair .str .str) l)),.clo (.func 42) [] [.p (.box 6 (cell zu t))]] r:=zG zBy rfl ⟨zI5.any,trivial⟩
theorem zJH(l:List (List UInt8×List UInt8))(t:zr)(hl:l.length<=1000000)(hc:∀ g ∈ l,fok t g):zCc (l.length+1) l t=some (.p (.int .i64 (yC (tP t) l)),[]):=by
 rw[zHn]
 refine zfm (([]:List UInt8),([]:List UInt8)) l (tP t) (fun f i=>ze5 (l.length+1) f l t (l.length:Int) i) (fun f i hi=>?_) (fun f=>?_) hl
 .show ze5 (l.length+1) (f+1) l t (l.length:Int) (i:Int)=_
  rw[zng]
  have hg:fok t (l.getD i ([],[])):=hc _ (by rw[List.getD_eq_getElem?_getD,List.getElem?_eq_getElem hi];exact List.getElem_mem hi)
  refine zi (by simpa using hi) (zd ⟨by omega,by simpa using hi⟩ (zd hg ?_))
  show cond (tP t (l.getD i (([]:List UInt8),([]:List UInt8)))) _ _=_
  cases tP t (l.getD i (([]:List UInt8),([]:List UInt8)))with
  | true=>rfl
  | false=>refine zg rfl ?_;exact zd ⟨by omega,by omega⟩ rfl
 .show ze5 (l.length+1) (f+1) l t (l.length:Int) (l.length:Int)=_
  rw[zng]
  exact zg (by simp) rfl
def zBx:=mkG [(43,zoN)] [] 19 [] [([0,1,0,1],⟨[0,1,7,8],[]⟩)] []
def ze4(F f1:Nat)(l:List (List UInt8×List UInt8))(t:zr)(vi1 vi2:Int):=zH zBx Tryz.f63 F [] [1,0,1,0] f1 [(0,pL 2 (.pair .str .str) l),(1,.clo (.func 43) [] [.p (.box 6 (cell zu t))]),(7,pI vi1),(8,pI vi2)] []
def zCb(F:Nat)(l:List (List UInt8×List UInt8))(t:zr):=zF zBx Tryz.f63 F [pL 2 (.pair .str .str) l,.clo (.func 43) [] [.p (.box 6 (cell zu t))]]
theorem znf(F f1 l t vi1 vi2):letI A:=l.getD vi2.toNat ([],[]);ze4 F (f1+1) l t vi1 vi2=cond (decide (vi2<vi1)) (ze (0<=vi2/\vi2<(l.length:Int)) (ze (fok t (A.1,A.2)) (cond (hP t (A.1,A.2)) (some (.p (.int .i64 vi2),[])) (ze (zh (vi2+1)) (ze4 F f1 l t vi1 (vi2+1)))))) (some (.p (.int .i64 (-1:Int)),[])):=by kernel_rfl
theorem zHm(F l t):zCb F l t=ze4 F F l t (l.length:Int) 0:=by kernel_rfl
theorem zKb(F l t r):IsP 63 (zCb F l t) [.p (.list 2 (.dat (.pair .str .str) l)),.clo (.func 43) [] [.p (.box 6 (cell zu t))]] r:=zG zBx rfl ⟨zI4.any,trivial⟩
theorem zJG(l:List (List UInt8×List UInt8))(t:zr)(hl:l.length<=1000000)(hc:∀ g ∈ l,fok t g):zCb (l.length+1) l t=some (.p (.int .i64 (yC (hP t) l)),[]):=by
 rw[zHm]
 refine zfm (([]:List UInt8),([]:List UInt8)) l (hP t) (fun f i=>ze4 (l.length+1) f l t (l.length:Int) i) (fun f i hi=>?_) (fun f=>?_) hl
 .show ze4 (l.length+1) (f+1) l t (l.length:Int) (i:Int)=_
  rw[znf]
  have hg:fok t (l.getD i ([],[])):=hc _ (by rw[List.getD_eq_getElem?_getD,List.getElem?_eq_getElem hi];exact List.getElem_mem hi)
  refine zi (by simpa using hi) (zd ⟨by omega,by simpa using hi⟩ (zd hg ?_))
  show cond (hP t (l.getD i (([]:List UInt8),([]:List UInt8)))) _ _=_
  cases hP t (l.getD i (([]:List UInt8),([]:List UInt8)))with
  | true=>rfl
  | false=>refine zg rfl ?_;exact zd ⟨by omega,by omega⟩ rfl
 .show ze4 (l.length+1) (f+1) l t (l.length:Int) (l.length:Int)=_
  rw[znf]
  exact zg (by simp) rfl
def zdX:List AV->Option (AV×Option Prop)
 | [.p l,.clo (.func n) [] [.p (.box 6 f)]]=>
  match Nat.beq n 42,Nat.beq n 43 with
  | true,_=>match zA zcK l,zT zu (zK f 6 0)with
   | some l,some t=>some (.p (.int .i64 (yC (tP t) l)),some (l.length<=1000000/\∀ g ∈ l,fok t g))
   | _,_=>none
  | _,true=>match zA zcK l,zT zu (zK f 6 0)with
   | some l,some t=>some (.p (.int .i64 (yC (hP t) l)),some (l.length<=1000000/\∀ g ∈ l,fok t g))
   | _,_=>none
  | _,_=>none
 | _=>none
theorem zmw:zn Tryz.prog 63 zdX:=by
 intro zs r ok he hok
 unfold zdX at he
 split at he
 .rename_i l' n f
  split at he
  .rename_i hn
   obtain rfl:=Nat.eq_of_beq_eq_true hn
   split at he
   .rename_i l t hl ht
    cases he
    obtain⟨hok,hg⟩:l.length<=1000000/\∀ g ∈ l,fok t g:=hok
    exact⟨by kernel_rfl,FnP.lq (ys:=[.p (.list 2 (.dat zcK l)),.clo (.func 42) [] [.p (.box 6 (cell zu t))]]) ⟨Lq.list (a:=zcK) hl,Lq.clo ⟨Lq.box (c:=zu) ht,trivial⟩,trivial⟩
     (zKc (l.length+1) l t _ fun _=>zJH l t hok hg)⟩
   .cases he
  .rename_i hn _
   obtain rfl:=Nat.eq_of_beq_eq_true hn
   split at he
   .rename_i l t hl ht
    cases he
    obtain⟨hok,hg⟩:l.length<=1000000/\∀ g ∈ l,fok t g:=hok
    exact⟨by kernel_rfl,FnP.lq (ys:=[.p (.list 2 (.dat zcK l)),.clo (.func 43) [] [.p (.box 6 (cell zu t))]]) ⟨Lq.list (a:=zcK) hl,Lq.clo ⟨Lq.box (c:=zu) ht,trivial⟩,trivial⟩
     (zKb (l.length+1) l t _ fun _=>zJG l t hok hg)⟩
   .cases he
  .cases he
 .cases he
def zLO:=mkG [(63,zdX)] [] 9 [] [] []
def zCp(F:Nat)(l:List (List UInt8×List UInt8))(t:zr):=zF zLO Tryz.f41 F [pL 2 (.pair .str .str) l,.clo (.func 42) [] [.p (.box 6 (cell zu t))]]
theorem zHA(F l t):zCp F l t=ze (l.length<=1000000/\∀ g ∈ l,fok t g) (some (.p (.bool (decide ((yC (tP t) l)>=0))),[])):=by kernel_rfl
theorem zKq(F l t r):IsP 41 (zCp F l t) [.p (.list 2 (.dat (.pair .str .str) l)),.clo (.func 42) [] [.p (.box 6 (cell zu t))]] r:=zG zLO rfl ⟨zmw.any,trivial⟩
theorem zKT(l:List (List UInt8×List UInt8))(t:zr)(hl:l.length<=1000000)(hc:∀ g ∈ l,fok t g):zCp 0 l t=some (.p (.bool (l.any (tP t))),[]):=by
 rw[zHA,<-zbi]
 exact zd ⟨hl,hc⟩ rfl
def zLN:=mkG [(63,zdX)] [] 9 [] [] []
def zCo(F:Nat)(l:List (List UInt8×List UInt8))(t:zr):=zF zLN Tryz.f41 F [pL 2 (.pair .str .str) l,.clo (.func 43) [] [.p (.box 6 (cell zu t))]]
theorem zHz(F l t):zCo F l t=ze (l.length<=1000000/\∀ g ∈ l,fok t g) (some (.p (.bool (decide ((yC (hP t) l)>=0))),[])):=by kernel_rfl
theorem zKp(F l t r):IsP 41 (zCo F l t) [.p (.list 2 (.dat (.pair .str .str) l)),.clo (.func 43) [] [.p (.box 6 (cell zu t))]] r:=zG zLN rfl ⟨zmw.any,trivial⟩
theorem zKS(l:List (List UInt8×List UInt8))(t:zr)(hl:l.length<=1000000)(hc:∀ g ∈ l,fok t g):zCo 0 l t=some (.p (.bool (l.any (hP t))),[]):=by
 rw[zHz,<-zbi]
 exact zd ⟨hl,hc⟩ rfl
def zgc:List AV->Option (AV×Option Prop)
 | [.p l,.clo (.func n) [] [.p (.box 6 f)]]=>
  match Nat.beq n 42,Nat.beq n 43 with
  | true,_=>match zA zcK l,zT zu (zK f 6 0)with
   | some l,some t=>some (.p (.bool (l.any (tP t))),some (l.length<=1000000/\∀ g ∈ l,fok t g))
   | _,_=>none
  | _,true=>match zA zcK l,zT zu (zK f 6 0)with
   | some l,some t=>some (.p (.bool (l.any (hP t))),some (l.length<=1000000/\∀ g ∈ l,fok t g))
   | _,_=>none
  | _,_=>none
 | _=>none
theorem zxh:zn Tryz.prog 41 zgc:=by
 intro zs r ok he hok
 unfold zgc at he
 split at he
 .rename_i l' n f
  split at he
  .rename_i hn
   obtain rfl:=Nat.eq_of_beq_eq_true hn
   split at he
   .rename_i l t hl ht
    cases he
    obtain⟨hok,hg⟩:l.length<=1000000/\∀ g ∈ l,fok t g:=hok
    exact⟨by kernel_rfl,FnP.lq (ys:=[.p (.list 2 (.dat zcK l)),.clo (.func 42) [] [.p (.box 6 (cell zu t))]]) ⟨Lq.list (a:=zcK) hl,Lq.clo ⟨Lq.box (c:=zu) ht,trivial⟩,trivial⟩
     (zKq 0 l t _ fun _=>zKT l t hok hg)⟩
   .cases he
  .rename_i hn _
   obtain rfl:=Nat.eq_of_beq_eq_true hn
   split at he
   .rename_i l t hl ht
    cases he
    obtain⟨hok,hg⟩:l.length<=1000000/\∀ g ∈ l,fok t g:=hok
    exact⟨by kernel_rfl,FnP.lq (ys:=[.p (.list 2 (.dat zcK l)),.clo (.func 43) [] [.p (.box 6 (cell zu t))]]) ⟨Lq.list (a:=zcK) hl,Lq.clo ⟨Lq.box (c:=zu) ht,trivial⟩,trivial⟩
     (zKp 0 l t _ fun _=>zKS l t hok hg)⟩
   .cases he
  .cases he
 .cases he
end Go.Proofs.YtampckbjinodgaaGreatDoor
