/-
  Lifted functions, and facts about them.
-/
import Derived.Test.YtampckbjinodgaaGreatDoorRows
import Derived.Test.YtampckbjinodgaaGreatDoorC01
import Derived.Test.YtampckbjinodgaaGreatDoorAmC
import Derived.Test.YtampckbjinodgaaGreatDoorC16
set_option linter.unusedVariables false
noncomputable section
namespace Go.Proofs.YtampckbjinodgaaGreatDoor
open Go Go.Am
abbrev zmJ:List UInt8:=[102,114,111,109]
def zs0(l:List (List UInt8×List UInt8)):List UInt8:=match zcz (yf l zmJ).1 with
 | []=>[]
 | a::_=>zL ((a.2.1++[64])++a.2.2)
def zmo(m:zq):List UInt8:=zs0 (zbX m).2.1
abbrev zuR(l:List (List UInt8×List UInt8)):Prop:=za8 l zmJ/\(yf l zmJ).1.length<=40000
theorem zD7{s:List UInt8}(h:s.length<=40000){a:yl}{r:List yl}(he:zcz s=a::r):a.2.1.length+a.2.2.length<=1000000:=by
 have h1:=zJt s
 have h2:=zDc (l:=zcz s) (a:=a) (by rw[he];simp)
 unfold szA at h2
 omega
def zLH:=mkG [(27,zcW),(45,zf9),(46,zo1)] [] 30 [] [] []
def zCi(F:Nat)(p:yd):=zF zLH Tryz.f26 F [.p (.box 10 (cell zD p))]
theorem zHt(F p):letI B:=(yf p.2.1 ([102,114,111,109]:List UInt8)).1;letI A:=((zcz B).getD (0:Int).toNat ([],([],[]))).2;letI C:=([64]:List UInt8);letI D:=0<=(0:Int)/\(0:Int)<((zcz B).length:Int);letI E:=A.1++C;zCi F p=ze (za8 p.2.1 ([102,114,111,109]:List UInt8)) (ze (B.length<=40000) (cond (((zcz B).length:Int)==0) (some (.p (.str ([]:List UInt8)),[])) (ze D (ze (zaW (A.1.length+C.length)) (ze D (ze (zaW (E.length+A.2.length)) (ze ((E++A.2).length<=140737488355328) (some (.p (.str (zL (E++A.2))),[]))))))))):=by kernel_rfl
theorem zKi(F p r):IsP 26 (zCi F p) [.p (.box 10 (cell zD p))] r:=zG zLH rfl ⟨zfg.any,zpq.any,zJk.any,trivial⟩
theorem zJS(p:yd)(h:zuR p.2.1):zCi 0 p=some (.p (.str (zs0 p.2.1)),[]):=by
 rw[zHt,zs0]
 refine zd h.1 (zd h.2 ?_)
 cases hl:zcz (yf p.2.1 zmJ).1 with
 | nil=>rfl
 | cons a r=>
  have hz:=zD7 h.2 hl
  refine zg (by simp;omega) (zd ⟨by omega,by simp⟩ (zd (by show zaW (a.2.1.length+1);unfold zaW;omega) (zd ⟨by omega,by simp⟩ (zd (by show zaW ((a.2.1++[64]).length+a.2.2.length);rw[List.length_append];show a.2.1.length+1+a.2.2.length<=_;omega) (zd (by show((a.2.1++[64])++a.2.2).length<=_;simp;omega) rfl)))))
def zoT:List AV->Option (AV×Option Prop)
 | [.p (.box 10 f)]=>match zT zD (zK f 10 0)with
  | some p=>some (.p (.str (zs0 p.2.1)),some (zuR p.2.1))
  | none=>none
 | _=>none
theorem zI9:zn Tryz.prog 26 zoT:=by
 intro zs r ok he hok
 unfold zoT at he
 split at he
 .rename_i f
  split at he
  .rename_i p hp
   cases he
   exact⟨by kernel_rfl,FnP.lq (ys:=[.p (.box 10 (cell zD p))]) ⟨Lq.box (c:=zD) hp,trivial⟩ (zKi 0 p _ fun _=>zJS p hok)⟩
  .cases he
 .cases he
def zBw:=mkG [(25,zcq),(53,zdl),(122,zfa),(123,zix)] [] 38 [] [([1,1,1,1],⟨[7],[]⟩)] []
def zqT(F:Nat)(vl1:List (List UInt8×List UInt8×List UInt8)):=zx zBw Tryz.f94 F [] [1,1,1,1] [(7,pL 3 (.pair .str (.pair .str .str)) vl1)] []
def zBQ(F:Nat)(id th:Int)(tx:List UInt8)(at_:Int)(ke:List (List UInt8))(me:List (Int×Int))(mo bo:Int):=zF zBw Tryz.f94 F [.agg [pI id,pI th,pS tx,pI at_,pL 1 .str ke,pL 2 (.pair (.int .i64) (.int .i64)) me,pI mo,pI bo]]
theorem zyT(F vl1):letI A:=(vl1.getD (0:Int).toNat ([],([],[]))).2;letI B:=([64]:List UInt8);letI C:=0<=(0:Int)/\(0:Int)<(vl1.length:Int);letI D:=A.1++B;zqT F vl1=cond ((vl1.length:Int)==0) (some (.p (.str ([]:List UInt8)),[])) (ze C (ze (zaW (A.1.length+B.length)) (ze C (ze (zaW (D.length+A.2.length)) (ze ((D++A.2).length<=140737488355328) (some (.p (.str (zL (D++A.2))),[]))))))):=by kernel_rfl
theorem zG9(F id th tx at_ ke me mo bo):letI A:=yf (zU tx 0 (tx.length:Int)).1 ([70,114,111,109]:List UInt8);zBQ F id th tx at_ ke me mo bo=ze (tx.length<=1000000) (ze (za8 (zU tx 0 (tx.length:Int)).1 ([70,114,111,109]:List UInt8)) (ze (A.1.length<=40000) (zqT F (zcz A.1)))):=by kernel_rfl
theorem zJ1(F id th tx at_ ke me mo bo r):IsP 94 (zBQ F id th tx at_ ke me mo bo) [.agg [.p (.int .i64 id),.p (.int .i64 th),.p (.str tx),.p (.int .i64 at_),.p (.list 1 (.dat .str ke)),.p (.list 2 (.dat (.pair (.int .i64) (.int .i64)) me)),.p (.int .i64 mo),.p (.int .i64 bo)]] r:=zG zBw rfl ⟨zeG.any,ziG.any,zpp.any,zAv.any,trivial⟩
theorem zNR(F:Nat)(s:List UInt8)(h:s.length<=40000):zqT F (zcz s)=some (.p (.str (match zcz s with|[]=>[]|a::_=>zL ((a.2.1++[64])++a.2.2))),[]):=by
 rw[zyT]
 cases hl:zcz s with
 | nil=>rfl
 | cons a r=>
  have hz:=zD7 h hl
  refine zg (by simp;omega) (zd ⟨by omega,by simp⟩ (zd (by show zaW (a.2.1.length+1);unfold zaW;omega) (zd ⟨by omega,by simp⟩ (zd (by show zaW ((a.2.1++[64]).length+a.2.2.length);rw[List.length_append];show a.2.1.length+1+a.2.2.length<=_;omega) (zd (by show((a.2.1++[64])++a.2.2).length<=_;simp;omega) rfl)))))
theorem zIt(id th:Int)(x:List UInt8)(at_:Int)(ke:List (List UInt8))(me:List (Int×Int))(mo bo:Int)(h:x.length<=30000):zBQ 0 id th x at_ ke me mo bo=some (.p (.str (zmo (id,th,x,at_,ke,me,mo,bo))),[]):=by
 have h3:(yf (zU x 0 (x.length:Int)).1 [70,114,111,109]).1=(yf (zU x 0 (x.length:Int)).1 zmJ).1:=by
  rw[zmD _ (n':=zmJ) (by kernel_rfl)]
 have hlen:(yf (zU x 0 (x.length:Int)).1 zmJ).1.length<=x.length:=ziO fun y hy=>(zcp x 0 (x.length:Int) y hy).2
 rw[zG9,h3]
 refine zd (by omega) (zd (zdV (by omega) (by simp)) (zd (by omega) ?_))
 exact zNR 0 _ (by omega)
def zoG:List AV->Option (AV×Option Prop)
 | [.agg [.p (.int .i64 id),.p (.int .i64 th),.p (.str x),.p (.int .i64 at_),.p ke,.p me,.p (.int .i64 mo),.p (.int .i64 bo)]]=>match zA .str ke,zA mbC me with
  | some ke',some me'=>some (.p (.str (zmo (id,th,x,at_,ke',me',mo,bo))),some (x.length<=30000))
  | _,_=>none
 | _=>none
theorem zd2{id th:Int}{x:List UInt8}{at_:Int}{ke me:PV}{mo bo:Int}{ke':List (List UInt8)}{me':List (Int×Int)}(h1:zA .str ke=some ke')(h2:zA mbC me=some me'):
 Lq (.agg [.p (.int .i64 id),.p (.int .i64 th),.p (.str x),.p (.int .i64 at_),.p ke,.p me,.p (.int .i64 mo),.p (.int .i64 bo)]) (.agg [.p (.int .i64 id),.p (.int .i64 th),.p (.str x),.p (.int .i64 at_),.p (.list (wid .str) (.dat .str ke')),.p (.list (wid mbC) (.dat mbC me')),.p (.int .i64 mo),.p (.int .i64 bo)]):=
 Lq.agg ⟨Lq.refl _,Lq.refl _,Lq.refl _,Lq.refl _,Lq.list (a:=.str) h1,Lq.list (a:=mbC) h2,Lq.refl _,Lq.refl _,trivial⟩
theorem zIV:zn Tryz.prog 94 zoG:=by
 intro zs r ok he hok
 unfold zoG at he
 split at he
 .rename_i id th x at_ ke me mo bo
  split at he
  .rename_i ke' me' hke hme
   cases he
   exact⟨by kernel_rfl,FnP.lq (ys:=[.agg [.p (.int .i64 id),.p (.int .i64 th),.p (.str x),.p (.int .i64 at_),.p (.list (wid .str) (.dat .str ke')),.p (.list (wid mbC) (.dat mbC me')),.p (.int .i64 mo),.p (.int .i64 bo)]]) ⟨zd2 hke hme,trivial⟩ (zJ1 0 id th x at_ ke' me' mo bo _ fun _=>zIt id th x at_ ke' me' mo bo hok)⟩
  .cases he
 .cases he
def zhV(k:Int)(tx:List UInt8)(a b:zq):Int:=
 if k=1 then zab a.2.2.2.1 b.2.2.2.1 else if k=2 then zab (a.2.2.1.length:Int) (b.2.2.1.length:Int) else if k=3 then zba (zmo a) (zmo b)
 else if k=4 then zba (zL (zbH a.2.2.1)) (zL (zbH b.2.2.1)) else if k=5 then zab (zlT a.2.2.2.2.1 tx) (zlT b.2.2.2.2.1 tx) else if k=6 then zab a.1 b.1 else 0
def zjT(o:Elt zM)(a b:zq):Int:=if o.2.2=true then 0-zhV o.1 o.2.1 a b else zhV o.1 o.2.1 a b
def zrJ:List (Elt zM)->zq->zq->Int
 | [],a,b=>zab a.1 b.1
 | o::r,a,b=>if zjT o a b≠0 then zjT o a b else zrJ r a b
def zaB(k:Int)(tx:List UInt8)(x y:zk):Int:=
 if k=1 then zab x.1.1.2.2.2.1 y.1.1.2.2.2.1 else if k=2 then zab (x.1.1.2.2.1.length:Int) (y.1.1.2.2.1.length:Int) else if k=3 then zba x.2.1 y.2.1
 else if k=4 then zba x.2.2 y.2.2 else if k=5 then zab (zlT x.1.1.2.2.2.2.1 tx) (zlT y.1.1.2.2.2.2.1 tx) else if k=6 then zab x.1.1.1 y.1.1.1 else 0
def zpH(o:Elt zM)(x y:zk):Int:=if o.2.2=true then 0-zaB o.1 o.2.1 x y else zaB o.1 o.2.1 x y
def zbM:List (Elt zM)->zk->zk->Int
 | [],x,y=>zab x.1.1.1 y.1.1.1
 | o::r,x,y=>if zpH o x y≠0 then zpH o x y else zbM r x y
def qel(m:zq):zk:=(zbX m,(zmo m,zL (zbH m.2.2.1)))
theorem zx0:∀ (o:List (Elt zM)) (a b:zq),zbM o (qel a) (qel b)=zrJ o a b
 | [],_,_=>rfl
 | o::r,a,b=>by
  have h:zpH o (qel a) (qel b)=zjT o a b:=rfl
  rw[zbM,zrJ,h,zx0 r a b]
theorem zDY(x y:Int):zab x y=-1\/zab x y=0\/zab x y=1:=by
 unfold zab
 repeat' split
 all_goals simp
theorem zJJ(k:Int)(tx:List UInt8)(x y:zk):zaB k tx x y=-1\/zaB k tx x y=0\/zaB k tx x y=1:=by
 unfold zaB
 repeat' split
 all_goals first|exact zDY _ _|exact zjS _ _|exact .inr (.inl rfl)
theorem zPJ(k:Int)(tx:List UInt8)(x y:zq):zhV k tx x y=-1\/zhV k tx x y=0\/zhV k tx x y=1:=by
 unfold zhV
 repeat' split
 all_goals first|exact zDY _ _|exact zjS _ _|exact .inr (.inl rfl)
def zLo:=mkG [] [] 19 [] [([0,1,0,1],⟨[0,1,7,8],[]⟩)] []
def zn4(F f1:Nat)(l:List (List UInt8))(v:List UInt8)(vi1 vi2:Int):=zH zLo Tryz.f61 F [] [1,0,1,0] f1 [(0,pL 1 .str l),(1,pS v),(7,pI vi1),(8,pI vi2)] []
def zRa(F:Nat)(l:List (List UInt8))(v:List UInt8):=zF zLo Tryz.f61 F [pL 1 .str l,pS v]
theorem zqw(F f1 l v vi1 vi2):zn4 F (f1+1) l v vi1 vi2=cond (decide (vi2<vi1)) (ze (0<=vi2/\vi2<(l.length:Int)) (cond (v==(l.getD vi2.toNat [])) (some (.p (.int .i64 vi2),[])) (ze (zh (vi2+1)) (zn4 F f1 l v vi1 (vi2+1))))) (some (.p (.int .i64 (-1:Int)),[])):=by kernel_rfl
theorem zLT(F l v):zRa F l v=zn4 F F l v (l.length:Int) 0:=by kernel_rfl
theorem zOW(F l v r):IsP 61 (zRa F l v) [.p (.list 1 (.dat .str l)),.p (.str v)] r:=zG zLo rfl trivial
theorem zse(F:Nat)(l:List (List UInt8))(v:List UInt8)(hl:l.length<=maxLen):∀ (r:List (List UInt8)) (f i:Nat),l.drop i=r->i+r.length=l.length->r.length<f->
 zn4 F f l v (l.length:Int) (i:Int)=some (.p (.int .i64 (if yC (v==·) r=-1 then -1 else(i:Int)+yC (v==·) r)),[])
 | [],f,i,hd,hi,hf=>by
  obtain⟨f,rfl⟩:∃ k,f=k+1:=⟨f-1,by omega⟩
  have hi:i=l.length:=by simpa using hi
  rw[zqw]
  exact zg (decide_eq_false (by omega)) rfl
 | x::r,f,i,hd,hi,hf=>by
  obtain⟨f,rfl⟩:∃ k,f=k+1:=⟨f-1,by omega⟩
  obtain⟨hg,hd2,hlt⟩:=yF hd ([]:List UInt8)
  rw[List.length_cons]at hi hf
  unfold maxLen at hl
  rw[zqw,Int.toNat_natCast,hg,show yC (v==·) (x::r)=(if(v==x)=true then 0 else if yC (v==·) r=-1 then -1 else yC (v==·) r+1) from rfl]
  refine zi (decide_eq_true (by omega)) (zd ⟨by omega,by omega⟩ ?_)
  cases hc:v==x with
  | true=>rw[if_pos rfl,if_neg (by decide)];simp
  | false=>
   refine zg rfl (zd (by unfold zh;omega) ?_)
   rw[show((i:Int)+1)=((i+1:Nat):Int) by omega,zse F l v (by unfold maxLen;omega) r f (i+1) hd2 (by omega) (by omega)]
   have:=zjx (v==·) r
   refine congrArg (fun z:Int=>(some ((.p (.int .i64 z):AV),([]:List (Nat×AObj))))) ?_
   generalize yC (v==·) r=z at this ⊢
   simp only[Bool.false_eq_true,if_false]
   repeat' split
   all_goals omega
def ztU:List AV->Option (AV×Option Prop)
 | [.p l,.p (.str v)]=>match zA .str l with
  | some l=>some (.p (.int .i64 (yC (v==·) l)),none)
  | none=>none
 | _=>none
theorem zN7:zn Tryz.prog 61 ztU:=by
 intro zs r ok he hok
 unfold ztU at he
 split at he
 .rename_i l' v
  split at he
  .rename_i l hl
   cases he
   exact⟨by kernel_rfl,FnP.lq (ys:=[.p (.list 1 (.dat .str l)),.p (.str v)]) ⟨Lq.list (a:=.str) hl,Lq.refl _,trivial⟩ (zOW (l.length+1) l v _ fun⟨M,vs,hv⟩=>by
    cases hv with|cons h1 _=>
    rw[zLT]
    have:=zse (l.length+1) l v (znQ (a:=.str) h1.p_inv) l (l.length+1) 0 rfl (by simp) (by omega)
    refine this.trans ?_
    congr 5
    split
    .rename_i h;exact h.symm
    .simp)⟩
  .cases he
 .cases he
def zQ8:=mkG [(61,ztU)] [] 9 [] [] []
def zRl(F:Nat)(l:List (List UInt8))(v:List UInt8):=zF zQ8 Tryz.f39 F [pL 1 .str l,pS v]
theorem zM7(F l v):zRl F l v=some (.p (.bool (decide ((yC (v==·) l)>=0))),[]):=by kernel_rfl
theorem zPy(F l v r):IsP 39 (zRl F l v) [.p (.list 1 (.dat .str l)),.p (.str v)] r:=zG zQ8 rfl ⟨zN7.any,trivial⟩
def zum:List AV->Option (AV×Option Prop)
 | [.p l,.p (.str v)]=>match zA .str l with
  | some l=>some (.p (.bool (l.any (v==·))),none)
  | none=>none
 | _=>none
theorem zOC:zn Tryz.prog 39 zum:=by
 intro zs r ok he hok
 unfold zum at he
 split at he
 .rename_i l' v
  split at he
  .rename_i l hl
   cases he
   exact⟨by kernel_rfl,FnP.lq (ys:=[.p (.list 1 (.dat .str l)),.p (.str v)]) ⟨Lq.list (a:=.str) hl,Lq.refl _,trivial⟩ (zPy 0 l v _ fun _=>by rw[zM7,zbi])⟩
  .cases he
 .cases he
def zEk:=mkG [(39,zum)] [] 13 [] [] [([888888,1],[2,65])]
def zEx(F:Nat)(pm:yd)(sm um:List UInt8)(o:Int×List UInt8×Bool):=zF zEk Tryz.f85 F [.agg [.p (.box 10 (cell zD pm)),pS sm,pS um],.p (.box 3 (cell (.pair (.int .i64) (.pair .str .bool)) o))]
theorem zCf(F pm sm um o):zEx F pm sm um o=cond (pm.1.2.2.2.2.1.any (o.2.1==·)) (some (.p (.int .i64 1),[])) (some (.p (.int .i64 0),[])):=by kernel_rfl
theorem zGq(F pm sm um o r):IsP 85 (zEx F pm sm um o) [.agg [.p (.box 10 (cell zD pm)),.p (.str sm),.p (.str um)],.p (.box 3 (cell (.pair (.int .i64) (.pair .str .bool)) o))] r:=zG zEk rfl ⟨zOC.any,trivial⟩
def zlw:List AV->Option (AV×Option Prop)
 | [.agg [.p (.box 10 f),.p (.str _),.p (.str _)],.p (.box 3 g)]=>match zT zD (zK f 10 0),zT zM (zK g 3 0)with
  | some p,some o=>some (.p (.int .i64 (zlT p.1.2.2.2.2.1 o.2.1)),none)
  | _,_=>none
 | _=>none
theorem zFH:zn Tryz.prog 85 zlw:=by
 intro zs r ok he hok
 unfold zlw at he
 split at he
 .rename_i f s1 s2 g
  split at he
  .rename_i p o hp ho
   cases he
   exact⟨by kernel_rfl,FnP.lq (ys:=[.agg [.p (.box 10 (cell zD p)),.p (.str s1),.p (.str s2)],.p (.box 3 (cell zM o))]) ⟨Lq.agg ⟨Lq.box (c:=zD) hp,Lq.refl _,Lq.refl _,trivial⟩,Lq.box (c:=zM) ho,trivial⟩
    (zGq 0 p s1 s2 o _ fun _=>by
     rw[zCf,zlT]
     cases(p.1.2.2.2.2.1.any (o.2.1==·)) <;> rfl)⟩
  .cases he
 .cases he
def zLE:=mkG [(52,zjd),(84,zlz),(85,zlw)] [] 81 [] [] [([888888,1],[3,56,4,65,5,65])]
def zCe(F:Nat)(k:Int)(tx:List UInt8)(dn:Bool)(pa:yd)(sa ua:List UInt8)(pb:yd)(sb ub:List UInt8):=zF zLE Tryz.f51 F [.agg [pI k,pS tx,pB dn],.agg [.p (.box 10 (cell zD pa)),pS sa,pS ua],.agg [.p (.box 10 (cell zD pb)),pS sb,pS ub]]
theorem zHo(F k tx dn pa sa ua pb sb ub):letI A:=(k,(tx,dn)).2.1;zCe F k tx dn pa sa ua pb sb ub=cond (k==1) (some (.p (.int .i64 (zab pa.1.2.2.2.1 pb.1.2.2.2.1)),[])) (cond (k==2) (some (.p (.int .i64 (zab (pa.1.2.2.1.length:Int) (pb.1.2.2.1.length:Int))),[])) (cond (k==3) (some (.p (.int .i64 (zba sa sb)),[])) (cond (k==4) (some (.p (.int .i64 (zba ua ub)),[])) (cond (k==5) (some (.p (.int .i64 (zab (zlT pa.1.2.2.2.2.1 A) (zlT pb.1.2.2.2.2.1 A))),[])) (cond (k==6) (some (.p (.int .i64 (zab pa.1.1 pb.1.1)),[])) (some (.p (.int .i64 0),[]))))))):=by kernel_rfl
theorem zKd(F k tx dn pa sa ua pb sb ub r):IsP 51 (zCe F k tx dn pa sa ua pb sb ub) [.agg [.p (.int .i64 k),.p (.str tx),.p (.bool dn)],.agg [.p (.box 10 (cell zD pa)),.p (.str sa),.p (.str ua)],.agg [.p (.box 10 (cell zD pb)),.p (.str sb),.p (.str ub)]] r:=zG zLE rfl ⟨zuw.any,zFK.any,zFH.any,trivial⟩
theorem zJI(k:Int)(tx:List UInt8)(dn:Bool)(pa:yd)(sa ua:List UInt8)(pb:yd)(sb ub:List UInt8):zCe 0 k tx dn pa sa ua pb sb ub=some (.p (.int .i64 (zaB k tx (pa,(sa,ua)) (pb,(sb,ub)))),[]):=by
 rw[zHo,zaB]
 have step:∀ (q x y:Int) (Y:Option (AV×List (Nat×AObj))),Y=some (.p (.int .i64 y),[])->cond (k==q) (some (.p (.int .i64 x),[])) Y=some (.p (.int .i64 (if k=q then x else y)),[]):=fun q x y Y hY=>by
  by_cases h:k=q
  .rw [if_pos h];exact zi (beq_iff_eq.2 h) rfl
  .rw [if_neg h];exact zg (beq_eq_false_iff_ne.2 h) hY
 exact step 1 _ _ _ (step 2 _ _ _ (step 3 _ _ _ (step 4 _ _ _ (step 5 _ _ _ (step 6 _ _ _ rfl)))))
def zoM:List AV->Option (AV×Option Prop)
 | [.agg [.p (.int .i64 k),.p (.str tx),.p (.bool _)],.agg [.p (.box 10 f),.p (.str s1),.p (.str s2)],.agg [.p (.box 10 g),.p (.str s3),.p (.str s4)]]=>match zT zD (zK f 10 0),zT zD (zK g 10 0)with
  | some x,some y=>some (.p (.int .i64 (zaB k tx (x,(s1,s2)) (y,(s3,s4)))),none)
  | _,_=>none
 | _=>none
theorem zI3:zn Tryz.prog 51 zoM:=by
 intro zs r ok he hok
 unfold zoM at he
 split at he
 .rename_i k tx dn f s1 s2 g s3 s4
  split at he
  .rename_i x y hx hy
   cases he
   exact⟨by kernel_rfl,FnP.lq (ys:=[.agg [.p (.int .i64 k),.p (.str tx),.p (.bool dn)],.agg [.p (.box 10 (cell zD x)),.p (.str s1),.p (.str s2)],.agg [.p (.box 10 (cell zD y)),.p (.str s3),.p (.str s4)]]) ⟨Lq.refl _,Lq.agg ⟨Lq.box (c:=zD) hx,Lq.refl _,Lq.refl _,trivial⟩,Lq.agg ⟨Lq.box (c:=zD) hy,Lq.refl _,Lq.refl _,trivial⟩,trivial⟩
    (zKd 0 k tx dn x s1 s2 y s3 s4 _ fun _=>zJI k tx dn x s1 s2 y s3 s4)⟩
  .cases he
 .cases he
def zvw:=mkG [(51,zoM),(52,zjd)] [] 41 [] [([0,1,0,1],⟨[4,5,10,11,12],[]⟩),([1,1,0,0,1,1,0,0,1,0,1],⟨[4,5,8,9,10,11,12],[⟨.slot 8,8,.cells []⟩]⟩)] [([888888,1],[4,65,5,65])]
def zgI(F f1:Nat)(vp1 vp2:zk)(o:List (Int×List UInt8×Bool))(vi3 vi4:Int):=zH zvw Tryz.f30 F [] [1,0,1,0] f1 [(4,.p (.box 3 (cell zt vp1))),(5,.p (.box 3 (cell zt vp2))),(10,pL 3 (.pair (.int .i64) (.pair .str .bool)) o),(11,pI vi3),(12,pI vi4)] []
def zzt(F f1:Nat)(vp1 vp2:zk)(vi5:Int)(o:List (Int×List UInt8×Bool))(vi3 vi4 vi6:Int)(vs7:List UInt8)(vc8:Bool):=zx zvw Tryz.f30 F [f1] [1,0,1,0,0,1,1,0,0,1,1] [(4,.p (.box 3 (cell zt vp1))),(5,.p (.box 3 (cell zt vp2))),(8,.ref 8 0),(9,pI vi5),(10,pL 3 (.pair (.int .i64) (.pair .str .bool)) o),(11,pI vi3),(12,pI vi4)] [(8,.cells [pI vi6,pS vs7,pB vc8])]
def zM8(F:Nat)(o:List (Int×List UInt8×Bool))(pa:yd)(sa ua:List UInt8)(pb:yd)(sb ub:List UInt8):=zF zvw Tryz.f30 F [pL 3 (.pair (.int .i64) (.pair .str .bool)) o,.agg [.p (.box 10 (cell zD pa)),pS sa,pS ua],.agg [.p (.box 10 (cell zD pb)),pS sb,pS ub]]
theorem zno(F f1 vp1 vp2 o vi3 vi4):letI A:=o.getD vi4.toNat ((0:Int),([],false));zgI F (f1+1) vp1 vp2 o vi3 vi4=cond (decide (vi4<vi3)) (ze (0<=vi4/\vi4<(o.length:Int)) (zzt F f1 vp1 vp2 (zaB A.1 A.2.1 (vp1.1,(vp1.2.1,vp1.2.2)) (vp2.1,(vp2.2.1,vp2.2.2))) o vi3 vi4 A.1 A.2.1 A.2.2)) (some (.p (.int .i64 (zab vp1.1.1.1 vp2.1.1.1)),[])):=by kernel_rfl
theorem zzs(F f1 vp1 vp2 vi5 o vi3 vi4 vi6 vs7 vc8):letI A:=zgI F f1 vp1 vp2 o vi3 (vi4+1);letI B:=0-vi5;letI C:=zh (vi4+1);zzt F f1 vp1 vp2 vi5 o vi3 vi4 vi6 vs7 vc8=cond vc8 (ze (zh B) (cond (B != 0) (some (.p (.int .i64 B),[])) (ze C A))) (cond (vi5 != 0) (some (.p (.int .i64 vi5),[])) (ze C A)):=by kernel_rfl
theorem zHB(F o pa sa ua pb sb ub):zM8 F o pa sa ua pb sb ub=zgI F F (pa,(sa,ua)) (pb,(sb,ub)) o (o.length:Int) 0:=by kernel_rfl
theorem zKr(F o pa sa ua pb sb ub r):IsP 30 (zM8 F o pa sa ua pb sb ub) [.p (.list 3 (.dat (.pair (.int .i64) (.pair .str .bool)) o)),.agg [.p (.box 10 (cell zD pa)),.p (.str sa),.p (.str ua)],.agg [.p (.box 10 (cell zD pb)),.p (.str sb),.p (.str ub)]] r:=zG zvw rfl ⟨zI3.any,zuw.any,trivial⟩
theorem zp2(F:Nat)(x y:zk)(o:List (Elt zM))(hl:o.length<=maxLen):∀ (r:List (Elt zM)) (f i:Nat),o.drop i=r->i+r.length=o.length->r.length<f->
 zgI F f x y o (o.length:Int) (i:Int)=some (.p (.int .i64 (zbM r x y)),[])
 | [],f,i,hd,hi,hf=>by
  obtain⟨f,rfl⟩:∃ k,f=k+1:=⟨f-1,by omega⟩
  have hi:i=o.length:=by simpa using hi
  rw[zno]
  exact zg (decide_eq_false (by omega)) rfl
 | q::r,f,i,hd,hi,hf=>by
  obtain⟨f,rfl⟩:∃ k,f=k+1:=⟨f-1,by omega⟩
  obtain⟨hg,hd2,hlt⟩:=yF hd (((0:Int),(([]:List UInt8),false)):Elt zM)
  rw[List.length_cons]at hi hf
  unfold maxLen at hl
  have hb:=zJJ q.1 q.2.1 x y
  rw[zno,Int.toNat_natCast,hg]
  refine zi (decide_eq_true (by omega)) (zd ⟨by omega,by omega⟩ ?_)
  have hnext:zgI F f x y o (o.length:Int) ((i:Int)+1)=some (.p (.int .i64 (zbM r x y)),[]):=by
   rw[show((i:Int)+1)=((i+1:Nat):Int) by omega]
   exact zp2 F x y o (by unfold maxLen;omega) r f (i+1) hd2 (by omega) (by omega)
  rw[zzs,zbM,zpH]
  show cond q.2.2 (ze (zh (0-zaB q.1 q.2.1 x y)) (cond ((0-zaB q.1 q.2.1 x y) != 0) (some (.p (.int .i64 (0-zaB q.1 q.2.1 x y)),[])) _)) (cond (zaB q.1 q.2.1 x y != 0) (some (.p (.int .i64 (zaB q.1 q.2.1 x y)),[])) _)=_
  cases q.2.2 with
  | true=>
   show ze _ _=some (AV.p (.int .i64 (if 0-zaB q.1 q.2.1 x y≠0 then 0-zaB q.1 q.2.1 x y else zbM r x y)),[])
   refine zd (by unfold zh;omega) ?_
   by_cases hc:0-zaB q.1 q.2.1 x y≠0
   .rw [if_pos hc];exact zi (bne_iff_ne.2 hc) rfl
   .rw [if_neg hc]
    exact zg (bne_eq_false_iff_eq.2 (Decidable.not_not.1 hc)) (zd (by unfold zh;omega) hnext)
  | false=>
   show cond (zaB q.1 q.2.1 x y != 0) _ _=some (AV.p (.int .i64 (if zaB q.1 q.2.1 x y≠0 then zaB q.1 q.2.1 x y else zbM r x y)),[])
   by_cases hc:zaB q.1 q.2.1 x y≠0
   .rw [if_pos hc];exact zi (bne_iff_ne.2 hc) rfl
   .rw [if_neg hc]
    exact zg (bne_eq_false_iff_eq.2 (Decidable.not_not.1 hc)) (zd (by unfold zh;omega) hnext)
abbrev zh8(_:List (Elt zM)):Prop:=True
def zjc:List AV->Option (AV×Option Prop)
 | [.p o,.agg [.p (.box 10 f),.p (.str s1),.p (.str s2)],.agg [.p (.box 10 g),.p (.str s3),.p (.str s4)]]=>match zA zM o,zT zD (zK f 10 0),zT zD (zK g 10 0)with
  | some o,some x,some y=>some (.p (.int .i64 (zbM o (x,(s1,s2)) (y,(s3,s4)))),some (zh8 o))
  | _,_,_=>none
 | _=>none
theorem zxi:zn Tryz.prog 30 zjc:=by
 intro zs r ok he hok
 unfold zjc at he
 split at he
 .rename_i o' f s1 s2 g s3 s4
  split at he
  .rename_i o x y ho hx hy
   cases he
   exact⟨by kernel_rfl,FnP.lq (ys:=[.p (.list 3 (.dat zM o)),.agg [.p (.box 10 (cell zD x)),.p (.str s1),.p (.str s2)],.agg [.p (.box 10 (cell zD y)),.p (.str s3),.p (.str s4)]]) ⟨Lq.list (a:=zM) ho,Lq.agg ⟨Lq.box (c:=zD) hx,Lq.refl _,Lq.refl _,trivial⟩,Lq.agg ⟨Lq.box (c:=zD) hy,Lq.refl _,Lq.refl _,trivial⟩,trivial⟩
    (zKr (o.length+1) o x s1 s2 y s3 s4 _ fun⟨M,vs,hv⟩=>by
     cases hv with|cons h1 _=>
     rw[zHB]
     exact zp2 _ _ _ o (znQ (a:=zM) h1.p_inv) o _ 0 rfl (by simp) (by omega))⟩
  .cases he
 .cases he
structure zbk{α:Type}(c:α->α->Int):Prop where
 swap:∀ a b,c b a=- c a b
 tr:∀ a b d,c a b<=0->c b d<=0->c a d<=0
theorem zGK(x y:Int):zab y x=- zab x y:=by
 unfold zab;repeat' split
 all_goals omega
theorem zPK(x y z:Int)(h:zab x y<=0)(k:zab y z<=0):zab x z<=0:=by
 unfold zab at *;repeat' split at h
 all_goals (repeat' split at k)
 all_goals (repeat' split)
 all_goals omega
theorem zbk.int{α:Type}(f:α->Int):zbk fun x y=>zab (f x) (f y):=⟨fun _ _=>zGK _ _,fun _ _ _=>zPK _ _ _⟩
theorem zbk.str{α:Type}(f:α->List UInt8):zbk fun x y=>zba (f x) (f y):=⟨fun _ _=>zs9 _ _,fun _ _ _=>zp3 _ _ _⟩
theorem zbk.neg{α:Type}{c:α->α->Int}(h:zbk c):zbk fun x y=>0-c x y:=⟨fun a b=>by have:=h.swap a b;omega,fun a b d h1 h2=>by
 have e1:=h.swap a b
 have e2:=h.swap b d
 have e3:=h.swap a d
 have:=h.tr d b a (by omega) (by omega)
 omega⟩
theorem zbk.lex{α:Type}{c d:α->α->Int}(h:zbk c)(k:zbk d):zbk fun x y=>if c x y≠0 then c x y else d x y:=⟨fun a b=>by
 have e1:=h.swap a b
 have e2:=k.swap a b
 by_cases h0:c a b=0
 .rw [if_neg (by omega),if_neg (by omega)];exact e2
 .rw [if_pos (by omega),if_pos (by omega)];exact e1,fun a b e h1 h2=>by
 have s1:=h.swap a b
 have s2:=h.swap b e
 have s3:=h.swap a e
 have l1:c a b<=0:=by
  by_cases h0:c a b=0
  .omega
  .rw [if_pos h0]at h1;exact h1
 have l2:c b e<=0:=by
  by_cases h0:c b e=0
  .omega
  .rw [if_pos h0]at h2;exact h2
 have l3:=h.tr a b e l1 l2
 by_cases h0:c a e=0
 .have t1:=h.tr b e a l2 (by omega)
  have t2:=h.tr e a b (by omega) l1
  rw[if_neg (by omega)]at h1 h2 ⊢
  exact k.tr a b e h1 h2
 .rw [if_pos h0];exact l3⟩
theorem zFX(q:Elt zM):zbk (zpH q):=by
 have h:zbk (zaB q.1 q.2.1):=by
  have e:zaB q.1 q.2.1=fun x y=>zaB q.1 q.2.1 x y:=rfl
  rw[e]
  unfold zaB
  by_cases h1:q.1=1
  .simp only[h1,if_true];exact zbk.int fun x:zk=>x.1.1.2.2.2.1
  by_cases h2:q.1=2
  .simp only[h2,show ¬ (2:Int)=1 by decide,if_false,if_true];exact zbk.int fun x:zk=>(x.1.1.2.2.1.length:Int)
  by_cases h3:q.1=3
  .simp only[h3,show ¬ (3:Int)=1 by decide,show ¬ (3:Int)=2 by decide,if_false,if_true];exact zbk.str fun x:zk=>x.2.1
  by_cases h4:q.1=4
  .simp only[h4,show ¬ (4:Int)=1 by decide,show ¬ (4:Int)=2 by decide,show ¬ (4:Int)=3 by decide,if_false,if_true];exact zbk.str fun x:zk=>x.2.2
  by_cases h5:q.1=5
  .simp only[h5,show ¬ (5:Int)=1 by decide,show ¬ (5:Int)=2 by decide,show ¬ (5:Int)=3 by decide,show ¬ (5:Int)=4 by decide,if_false,if_true];exact zbk.int fun x:zk=>zlT x.1.1.2.2.2.2.1 q.2.1
  by_cases h6:q.1=6
  .simp only[h6,show ¬ (6:Int)=1 by decide,show ¬ (6:Int)=2 by decide,show ¬ (6:Int)=3 by decide,show ¬ (6:Int)=4 by decide,show ¬ (6:Int)=5 by decide,if_false,if_true];exact zbk.int fun x:zk=>x.1.1.1
  .simp only[h1,h2,h3,h4,h5,h6,if_false];exact⟨fun _ _=>rfl,fun _ _ _ _ _=>Int.le_refl 0⟩
 unfold zpH
 cases q.2.2 with
 | true=>simp only[if_true];exact h.neg
 | false=>simp only[Bool.false_eq_true,if_false];exact h
theorem zeO:∀ o:List (Elt zM),zbk (zbM o)
 | []=>zbk.int fun x:zk=>x.1.1.1
 | q::r=>(zFX q).lex (zeO r)
def idF(x:zk):Int:=x.1.1.1
theorem ztb:∀ (o:List (Elt zM)) (x y:zk),zbM o x y=0->idF x=idF y
 | [],x,y,h=>by
  have h:zab x.1.1.1 y.1.1.1=0:=h
  unfold zab at h
  show x.1.1.1=y.1.1.1
  split at h
  .omega
  .split at h <;> omega
 | q::r,x,y,h=>by
  rw[zbM]at h
  by_cases hc:zpH q x y≠0
  .rw [if_pos hc]at h;exact absurd h hc
  .rw [if_neg hc]at h;exact ztb r x y h
def LtF(o:List (Elt zM))(x y:zk):Prop:=zbM o x y<0
theorem zbn(o:List (Elt zM))(x y:zk):zbM o x y<0↔LtF o x y:=Iff.rfl
theorem LtF.trans{o:List (Elt zM)}{x y z:zk}(h:LtF o x y)(k:LtF o y z):LtF o x z:=by
 unfold LtF at *
 have c:=zeO o
 have t1:=c.tr x y z (by omega) (by omega)
 have s1:=c.swap x z
 have s2:=c.swap y z
 by_cases h0:zbM o x z=0
 .have:=c.tr z x y (by omega) (by omega)
  omega
 .omega
theorem LtF.asymm{o:List (Elt zM)}{x y:zk}(h:LtF o x y):¬ LtF o y x:=by
 unfold LtF at *
 have:=(zeO o).swap x y
 omega
theorem LtF.of_not{o:List (Elt zM)}{x y:zk}(h:¬ LtF o x y)(k:idF x≠idF y):LtF o y x:=by
 unfold LtF at *
 have:=(zeO o).swap x y
 have hne:zbM o x y≠0:=fun h0=>k (ztb o x y h0)
 omega
theorem zIC{α:Type}{R:α->α->Prop}:∀ {l:List α},l.Pairwise R->∀ {a b},a ∈ l->b ∈ l->a=b\/R a b\/R b a
 | [],_,_,_,ha,_=>by cases ha
 | x::l,h,a,b,ha,hb=>by
  rw[List.pairwise_cons]at h
  rcases List.mem_cons.1 ha with ha|ha <;> rcases List.mem_cons.1 hb with hb|hb
  .exact .inl (ha.trans hb.symm)
  .rw [ha];exact .inr (.inl (h.1 _ hb))
  .rw [hb];exact .inr (.inr (h.1 _ ha))
  .exact zIC h.2 ha hb
def leF(o:List (Elt zM))(x y:zk):Bool:=!decide (zbM o y x<0)
theorem zha{o:List (Elt zM)}{x y:zk}:leF o x y=true↔¬ LtF o y x:=by
 unfold leF;rw[Bool.not_eq_true',decide_eq_false_iff_not,zbn]
def zW(o:List (Elt zM))(l:List zk):List zk:=l.mergeSort (leF o)
abbrev zes(l:List zk):Prop:=l.Pairwise fun x y=>idF x≠idF y
theorem ye(o:List (Elt zM))(l:List zk):(zW o l).Perm l:=List.mergeSort_perm _ _
theorem zxm(o:List (Elt zM))(l:List zk):(zW o l).Pairwise fun x y=>leF o x y=true:=
 List.pairwise_mergeSort (fun a b c h k=>by
  rw[zha]at *
  unfold LtF at *
  have q:=zeO o
  have:=q.swap a b
  have:=q.swap b c
  have:=q.swap a c
  have:=q.tr a b c (by omega) (by omega)
  omega) (fun a b=>by
  rw[Bool.or_eq_true,zha,zha]
  unfold LtF
  have:=(zeO o).swap a b
  omega) l
theorem zcy{o:List (Elt zM)}{s w:List zk}(h:s.Perm w)(hs:s.Pairwise (LtF o)):zW o w=s:=by
 refine List.Perm.eq_of_pairwise (le:=fun x y=>leF o x y=true) (fun a b ha hb h1 h2=>?_) (zxm o w) (hs.imp fun {x y} q=>zha.2 q.asymm) ((ye o w).trans h.symm)
 rw[zha]at h1 h2
 rcases zIC hs (h.symm.subset ((ye o w).subset ha)) hb with q|q|q
 .exact q
 .exact absurd q h2
 .exact absurd q h1
theorem zes.perm{l l':List zk}(h:zes l)(p:l.Perm l'):zes l':=(p.pairwise_iff (fun h=>Ne.symm h)).1 h
theorem zgi{o:List (Elt zM)}{w:List zk}(h:zes w):(zW o w).Pairwise (LtF o):=
 ((zxm o w).and (h.perm (ye o w).symm)).imp fun {x y} ⟨h1,h2⟩=>LtF.of_not (zha.1 h1) (Ne.symm h2)
def zaV(o:List (Elt zM))(a b:Int)(l:List zk):List zk:=l.take a.toNat++(zW o ((l.take b.toNat).drop a.toNat)++l.drop b.toNat)
theorem zb4(o:List (Elt zM))(P W Q:List zk)(a b:Int)(ha:a=P.length)(hb:b=(P.length+W.length:Nat)):zaV o a b (P++(W++Q))=P++(zW o W++Q):=by
 subst ha;subst hb
 show(P++(W++Q)).take _++(zW o (((P++(W++Q)).take _).drop _)++(P++(W++Q)).drop _)=_
 rw[Int.toNat_natCast,Int.toNat_natCast]
 have e1:(P++(W++Q)).take (P.length+W.length)=P++W:=by rw[<-List.append_assoc];exact List.take_left' (by simp)
 have e2:(P++(W++Q)).drop (P.length+W.length)=Q:=by rw[<-List.append_assoc];exact List.drop_left' (by simp)
 rw[e1,e2,List.take_left' rfl,List.drop_left' rfl]
theorem zg0(l:List zk)(a b:Nat)(h:a<=b)(hb:b<=l.length):∃ P W Q,l=P++(W++Q)/\P.length=a/\W.length=b-a:=by
 refine⟨l.take a,(l.take b).drop a,l.drop b,?_,by rw[List.length_take];omega,by rw[List.length_drop,List.length_take];omega⟩
 have e:l.take a=(l.take b).take a:=by rw[List.take_take,Nat.min_eq_left h]
 rw[e,<-List.append_assoc,List.take_append_drop,List.take_append_drop]
theorem zaN{P Q:List zk}{u:zk}{n:Nat}(h:n=P.length)(d:zk):(P++u::Q).getD n d=u:=by
 subst h;simp
theorem zcs{P Q:List zk}{u v:zk}{n:Nat}(h:n=P.length):(P++u::Q).set n v=P++v::Q:=by
 subst h;simp
abbrev zDC(o:List (Elt zM))(a b:Int)(l:List zk):Prop:=zh8 o/\0<=a/\a<=b/\b<=l.length/\l.length<=1000/\zes l
def zD0:Code:=yw Tryz.f82
def zto:=mkG [(30,zjc)] [] 53 [70000] [([0,1],⟨[0,1,2,3,8],[⟨.fix 70000,70000,.cells []⟩]⟩),([0,1,0,0,1,0,0,1],⟨[0,1,2,3,8,9],[⟨.fix 70000,70000,.cells []⟩]⟩),([1,0,0,0,1,0,0,1,0,0,1],⟨[0,1,2,3,8,9,34],[⟨.fix 70000,70000,.cells []⟩]⟩),([1,1,0,0,1,0,0,1,0,0,1],⟨[0,1,2,3,8,9],[⟨.fix 70000,70000,.cells []⟩]⟩)] []
def zDy:K:=kR Tryz.prog [70000] ⟨[],[⟨.fix 70000,70000,.cells []⟩]⟩ [70000] Tryz.f82.results.toList
def zhL(F f1:Nat)(x y:Int)(vl1:List (Int×List UInt8×Bool))(vi2:Int)(vl3:List zk):=zcI zto zD0 zDy F [] [1,0] f1 [(0,.arr 70000),(1,pI x),(2,pI y),(3,.clo (.func 30) [pL 3 (.pair (.int .i64) (.pair .str .bool)) vl1] []),(8,pI vi2)] [(70000,.larr 64 true 3 (.dat zt vl3))]
def zhK(F f1 f2:Nat)(x y:Int)(vl1:List (Int×List UInt8×Bool))(vi2 vi4:Int)(vl5:List zk):=zcI zto zD0 zDy F [f1] [1,0,0,1,0,0,1,0] f2 [(0,.arr 70000),(1,pI x),(2,pI y),(3,.clo (.func 30) [pL 3 (.pair (.int .i64) (.pair .str .bool)) vl1] []),(8,pI vi2),(9,pI vi4)] [(70000,.larr 64 true 3 (.dat zt vl5))]
def zEK(F f1 f2:Nat)(x y:Int)(vl1:List (Int×List UInt8×Bool))(vi2 vi4:Int)(vc6:Bool)(vl5:List zk):=zcv zto zD0 zDy F [f1,f2] [1,0,0,1,0,0,1,0,0,0,1] [(0,.arr 70000),(1,pI x),(2,pI y),(3,.clo (.func 30) [pL 3 (.pair (.int .i64) (.pair .str .bool)) vl1] []),(8,pI vi2),(9,pI vi4),(34,pB vc6)] [(70000,.larr 64 true 3 (.dat zt vl5))]
def zEJ(F f1 f2:Nat)(x y:Int)(vl1:List (Int×List UInt8×Bool))(vi2 vi4:Int)(vl7:List zk):=zcv zto zD0 zDy F [f1,f2] [1,0,0,1,0,0,1,0,0,1,1] [(0,.arr 70000),(1,pI x),(2,pI y),(3,.clo (.func 30) [pL 3 (.pair (.int .i64) (.pair .str .bool)) vl1] []),(8,pI vi2),(9,pI vi4)] [(70000,.larr 64 true 3 (.dat zt vl7))]
def zMJ(F:Nat)(x y:Int)(o:List (Elt zM))(l:List zk):=zam zto Tryz.f82 ⟨[],[⟨.fix 70000,70000,.cells []⟩]⟩ [70000] F [.arr 70000,pI x,pI y,.clo (.func 30) [pL 3 (.pair (.int .i64) (.pair .str .bool)) o] []] [(70000,.larr 64 true 3 (.dat zt l))]
theorem zi2(F f1 x y vl1 vi2 vl3):zhL F (f1+1) x y vl1 vi2 vl3=cond (decide (vi2<y)) (zhK F f1 f1 x y vl1 vi2 vi2 vl3) (some (.tup [],[(70000,.larr 64 true 3 (.dat zt vl3))])):=by kernel_rfl
theorem zra(F f1 f2 x y vl1 vi2 vi4 vl5):letI B:=vl5.getD vi4.toNat ((((0:Int),((0:Int),([],((0:Int),([],([],((0:Int),(0:Int)))))))),([],[])),([],[]));letI C:=decide (vi4>x);letI D:=vi4-1;letI A:=vl5.getD D.toNat ((((0:Int),((0:Int),([],((0:Int),([],([],((0:Int),(0:Int)))))))),([],[])),([],[]));letI E:=(vl5.length:Int);zhK F f1 (f2+1) x y vl1 vi2 vi4 vl5=ze (C=true->0<=vi4/\vi4<E) (ze (C=true->vi4.toNat<vl5.length) (ze (C=true->zh D) (ze (C=true->0<=D/\D<E) (ze (C=true->D.toNat<vl5.length) (ze (C=true->zh8 vl1) (zEK F f1 f2 x y vl1 vi2 vi4 (C&&(decide ((zbM vl1 (B.1,(B.2.1,B.2.2)) (A.1,(A.2.1,A.2.2)))<0))) vl5)))))):=letI A:=(decide (vi4>x))=true;Eq.trans (by kernel_rfl) (nI A (nI A (zf (nI A (zf (nI A (zf (nI A (nI A (zf (nI A (zf (nI A (nI A (nI A (zf (nI A (nI A rfl))))))))))))))))))
theorem zq9(F f1 f2 x y vl1 vi2 vi4 vc6 vl5):letI B:=vl5.getD vi4.toNat ((((0:Int),((0:Int),([],((0:Int),([],([],((0:Int),(0:Int)))))))),([],[])),([],[]));letI D:=vi4-1;letI A:=vl5.getD D.toNat ((((0:Int),((0:Int),([],((0:Int),([],([],((0:Int),(0:Int)))))))),([],[])),([],[]));letI C:=vl5.set vi4.toNat (A.1,(A.2.1,A.2.2));letI E:=0<=vi4/\vi4<(vl5.length:Int);letI H:=vi4.toNat<vl5.length;zEK F f1 f2 x y vl1 vi2 vi4 vc6 vl5=cond vc6 (ze (zh D) (ze (zh D) (ze (0<=D/\D<(vl5.length:Int)) (ze (D.toNat<vl5.length) (ze E (ze H (ze E (ze H (ze (0<=D/\D<(C.length:Int)) (ze (D.toNat<C.length) (zEJ F f1 f2 x y vl1 vi2 vi4 (C.set D.toNat (B.1,(B.2.1,B.2.2)))))))))))))) (ze (zh (vi2+1)) (zhL F f1 x y vl1 (vi2+1) vl5)):=by kernel_rfl
theorem zC2(F f1 f2 x y vl1 vi2 vi4 vl7):zEJ F f1 f2 x y vl1 vi2 vi4 vl7=ze (zh (vi4-1)) (zhK F f1 f2 x y vl1 vi2 (vi4-1) vl7):=by kernel_rfl
theorem zMI(F x y o l):zMJ F x y o l=ze (zh (x+1)) (zhL F F x y o (x+1) l):=by kernel_rfl
theorem zPm(F x y o l r os):IsR 82 (zMJ F x y o l) [.arr 70000,.p (.int .i64 x),.p (.int .i64 y),.clo (.func 30) [.p (.list 3 (.dat (.pair (.int .i64) (.pair .str .bool)) o))] []] [(70000,.larr 64 true 3 (.dat zt l))] [70000] r os:=zb9 zto ⟨[],[⟨.fix 70000,70000,.cells []⟩]⟩ [70000] rfl ⟨zxi.any,trivial⟩
theorem zTK(o:List (Elt zM))(F f1:Nat)(P Z:List zk)(u:zk)(b i:Int)(hi:0<=i/\i<=1000):∀ (n f2:Nat) (A B:List zk),A.length=n->n<f2->(A++B).Pairwise (LtF o)->(∀ z ∈ A++B,idF z≠idF u)->(∀ z ∈ B,LtF o u z)->
 P.length+(A.length+(B.length+Z.length))+1<=1000->
 ∃ S,S.Perm (A++u::B)/\S.Pairwise (LtF o)/\zhK F f1 f2 (P.length:Int) b o i ((P.length+A.length:Nat):Int) (P++(A++u::(B++Z)))=zhL F f1 (P.length:Int) b o (i+1) (P++(S++Z)):=by
 intro n
 induction n with
 | zero=>
  intro f2 A B hA hf hs hid hb hlen
  obtain⟨f2,rfl⟩:∃ k,f2=k+1:=⟨f2-1,by omega⟩
  have:A=[]:=List.eq_nil_of_length_eq_zero hA
  subst this
  refine⟨u::B,.refl _,List.pairwise_cons.2 ⟨hb,hs⟩,?_⟩
  have hg:decide (((P.length+([]:List zk).length:Nat):Int)>(P.length:Int))=false:=decide_eq_false (by simp)
  rw[zra,hg]
  iterate 6 refine zd (fun h=>absurd h (by decide)) ?_
  rw[Bool.false_and,zq9]
  exact zg rfl (zd (by unfold zh;omega) rfl)
 | succ n ih=>
  intro f2 A B hA hf hs hid hb hlen
  obtain⟨f2,rfl⟩:∃ k,f2=k+1:=⟨f2-1,by omega⟩
  obtain⟨A,y,rfl⟩:∃ A' y,A=A'++[y]:=by
   rcases List.eq_nil_or_concat A with rfl|⟨A',y,rfl⟩
   .simp at hA
   .exact ⟨A',y,List.concat_eq_append⟩
  have hA:A.length=n:=by simpa using hA
  have e0:P++(A++[y]++u::(B++Z))=(P++A)++y::u::(B++Z):=by simp
  have e1:P++(A++[y]++u::(B++Z))=(P++(A++[y]))++u::(B++Z):=by simp
  have hlen:P.length+(A.length+1+(B.length+Z.length))+1<=1000:=by simpa using hlen
  have el:(P++(A++[y]++u::(B++Z))).length=P.length+A.length+2+(B.length+Z.length):=by simp;omega
  have tn:(((P.length+(A++[y]).length:Nat):Int)).toNat=P.length+A.length+1:=by simp;omega
  have tm:(((P.length+(A++[y]).length:Nat):Int)-(1:Int)).toNat=P.length+A.length:=by simp;omega
  have tj:((P.length+(A++[y]).length:Nat):Int)=((P.length+A.length:Nat):Int)+1:=by simp;omega
  have g1:∀ d,(P++(A++[y]++u::(B++Z))).getD (P.length+A.length+1) d=u:=fun d=>by rw[e1];exact zaN (by simp;omega) d
  have g0:∀ d,(P++(A++[y]++u::(B++Z))).getD (P.length+A.length) d=y:=fun d=>by rw[e0];exact zaN (by simp) d
  have hg:decide (((P.length+(A++[y]).length:Nat):Int)>(P.length:Int))=true:=decide_eq_true (by simp;omega)
  have hstep:zhK F f1 (f2+1) (P.length:Int) b o i ((P.length+(A++[y]).length:Nat):Int) (P++(A++[y]++u::(B++Z)))=
   cond (decide (zbM o u y<0)) (zhK F f1 f2 (P.length:Int) b o i ((P.length+A.length:Nat):Int) (P++(A++u::(y::B++Z)))) (zhL F f1 (P.length:Int) b o (i+1) (P++(A++[y]++u::(B++Z)))):=by
   rw[zra,hg,tn,tm]
   refine zd (fun _=>by rw[el];omega) (zd (fun _=>by rw[el];omega) (zd (fun _=>by unfold zh;omega) (zd (fun _=>by rw[el];omega) (zd (fun _=>by rw[el];omega) (zd (fun _=>trivial) ?_)))))
   simp only[g0,g1,Prod.eta]
   rw[Bool.true_and,zq9,tn,tm]
   cases decide (zbM o u y<0)with
   | false=>exact zd (by unfold zh;omega) rfl
   | true=>
    dsimp only[cond]
    iterate 2 refine zd (by unfold zh;omega) ?_
    iterate 2 refine zd (by rw[el];omega) (zd (by rw[el];omega) ?_)
    refine zd (by rw[el];omega) (zd (by rw[el];omega) ?_)
    simp only[g0,g1,Prod.eta,List.length_set]
    refine zd (by rw[el];omega) (zd (by rw[el];omega) ?_)
    rw[zC2]
    refine zd (by unfold zh;omega) ?_
    rw[e1,zcs (by simp;omega),show P++(A++[y])++y::(B++Z)=(P++A)++y::(y::B++Z) by simp,zcs (by simp),List.append_assoc P A,tj,Int.add_sub_cancel]
  by_cases hc:LtF o u y
  .have hs':=hs
   rw[List.append_assoc]at hs'
   obtain⟨S,p1,p2,p3⟩:=ih f2 A (y::B) hA (by omega) hs' (fun z hz=>hid z (by simpa using hz)) (fun z hz=>by
    rcases List.mem_cons.1 hz with rfl|hz
    .exact hc
    .exact hb z hz) (by simp;omega)
   refine⟨S,p1.trans ?_,p2,?_⟩
   .rw [List.append_assoc]
    exact List.Perm.append_left A (List.Perm.swap y u B)
   .rw [hstep,decide_eq_true ((zbn o u y).2 hc)]
    exact p3
  .have hyu:LtF o y u:=LtF.of_not hc (Ne.symm (hid y (by simp)))
   refine⟨A++[y]++u::B,.refl _,?_,?_⟩
   .rw [List.pairwise_append]at hs ⊢
    obtain⟨q1,q2,q3⟩:=hs
    refine⟨q1,List.pairwise_cons.2 ⟨hb,q2⟩,fun a ha z hz=>?_⟩
    rcases List.mem_cons.1 hz with rfl|hz
    .rcases List.mem_append.1 ha with ha'|ha'
     .rw [List.pairwise_append]at q1
      exact(q1.2.2 a ha' y (by simp)).trans hyu
     .rw [List.mem_singleton.1 ha'];exact hyu
    .exact q3 a ha z hz
   .rw [hstep,decide_eq_false (fun q=>hc ((zbn o u y).1 q))]
    rw[show P++(A++[y]++u::B++Z)=P++(A++[y]++u::(B++Z)) by simp]
    rfl
theorem zQG(o:List (Elt zM))(F:Nat)(P Q:List zk)(b:Int):∀ (R:List zk) (f1:Nat) (S:List zk),1001+R.length<f1->S.length<=1000->b=((P.length+(S.length+R.length):Nat):Int)->S.Pairwise (LtF o)->zes (S++R)->
 P.length+(S.length+(R.length+Q.length))<=1000->
 ∃ W,W.Perm (S++R)/\W.Pairwise (LtF o)/\zhL F f1 (P.length:Int) b o ((P.length+S.length:Nat):Int) (P++(S++(R++Q)))=some (.tup [],[(70000,.larr 64 true 3 (.dat zt (P++(W++Q))))])
 | [],f1,S,hf,_,hb,hs,hid,hl=>by
  obtain⟨f1,rfl⟩:∃ k,f1=k+1:=⟨f1-1,by simp at hf;omega⟩
  refine⟨S,by simp,hs,?_⟩
  rw[zi2]
  exact zg (decide_eq_false (by rw[hb];simp)) rfl
 | u::R,f1,S,hf,h10,hb,hs,hid,hl=>by
  rw[List.length_cons]at hf hb hl
  obtain⟨f1,rfl⟩:∃ k,f1=k+1:=⟨f1-1,by omega⟩
  have hid1:∀ z ∈ S,idF z≠idF u:=by
   have:=(List.pairwise_append.1 hid).2.2
   exact fun z hz=>this z hz u (by simp)
  obtain⟨W,w1,w2,w3⟩:=zTK o F f1 P (R++Q) u b ((P.length+S.length:Nat):Int) ⟨by omega,by omega⟩ S.length f1 S [] rfl (by omega) (by simpa using hs) (by simpa using hid1) (by simp) (by simp;omega)
  rw[List.nil_append]at w3
  have hp:(W++R).Perm (S++u::R):=by
   have:=w1.append_right R
   simpa using this
  have wl:W.length=S.length+1:=by have:=w1.length_eq;simpa using this
  obtain⟨V,v1,v2,v3⟩:=zQG o F P Q b R f1 W (by omega) (by omega) (by rw[hb,wl];omega) w2 (zes.perm hid hp.symm) (by omega)
  refine⟨V,v1.trans hp,v2,?_⟩
  rw[zi2]
  refine zi (decide_eq_true (by rw[hb];omega)) ?_
  rw[List.cons_append,w3,show((P.length+S.length:Nat):Int)+1=((P.length+W.length:Nat):Int) by rw[wl];omega]
  exact v3
theorem zOJ(o:List (Elt zM))(a b:Int)(l:List zk)(h:zDC o a b l):zMJ 2003 a b o l=some (.tup [],[(70000,.larr 64 true 3 (.dat zt (zaV o a b l)))]):=by
 obtain⟨_,h0,h1,h2,h3,h4⟩:=h
 obtain⟨P,W,Q,rfl,hP,hW⟩:=zg0 l a.toNat b.toNat (by omega) (by omega)
 have hl:P.length+(W.length+Q.length)<=1000:=by simpa using h3
 rw[zMI]
 refine zd (by unfold zh;omega) ?_
 rw[zb4 o P W Q a b (by omega) (by omega)]
 cases W with
 | nil=>
  rw[show(2003:Nat)=2002+1 from rfl,zi2]
  exact zg (decide_eq_false (by simp at hW;omega)) (by rw[show zW o []=[] by unfold zW;simp])
 | cons u W=>
  have hid:zes ([u]++W):=by
   have:=(List.pairwise_append.1 (List.pairwise_append.1 h4).2.1).1
   exact this
  rw[List.length_cons]at hW hl
  obtain⟨V,v1,v2,v3⟩:=zQG o 2003 P Q b W 2003 [u] (by omega) (by simp) (by simp;omega) (by simp) hid (by simp;omega)
  rw[show zW o (u::W)=V from zcy v1 v2,show a=(P.length:Int) by omega]
  rw[show((P.length+[u].length:Nat):Int)=(P.length:Int)+1 by simp]at v3
  exact v3
end Go.Proofs.YtampckbjinodgaaGreatDoor
