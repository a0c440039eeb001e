/-
  Lifted functions, and facts about them.
-/
import Derived.Test.YtampckbjinodgaaGreatDoorRows
import Derived.Test.YtampckbjinodgaaGreatDoorC01
import Derived.Test.YtampckbjinodgaaGreatDoorAmC
import Derived.Test.YtampckbjinodgaaGreatDoorC08
set_option linter.unusedVariables false
noncomputable section
namespace Go.Proofs.YtampckbjinodgaaGreatDoor
open Go Go.Am
theorem zaj{a:Ec}{k:Nat}{R:Go.Am.Rows}{l:List (Elt a)}(h:zA a (.list k R)=some l):R=.dat a l/\k=wid a:=by
 cases R with
 | fn n f=>cases h
 | dat a' l'=>
  simp only[zA]at h
  split at h
  .rename_i he hk heq
   subst he;cases h
   exact⟨rfl,Nat.eq_of_beq_eq_true hk⟩
  .cases h
def zcr:List zk->List zk
 | [a,b]=>if zab b.1.1.1 a.1.1.1<0 then[b,a] else[a,b]
 | l=>l
theorem zss:∀ l:List zk,l.length=2->(zcr l).length=2
 | [a,b],_=>by rw[zcr];split <;> rfl
def zD1:Code:=yw Tryz.f82
def ztp:=mkG [(30,zoX)] [] 53 [70000] [([0,1],⟨[0,1,2,3,8],[⟨.fix 70000,70000,.cells []⟩]⟩),([0,1,0,0,1,0,0,1],⟨[0,1,2,3,8,9],[⟨.fix 70000,70000,.cells []⟩]⟩),([1,0,0,0,1,0,0,1,0,0,1],⟨[0,1,2,3,8,9,34],[⟨.fix 70000,70000,.cells []⟩]⟩),([1,1,0,0,1,0,0,1,0,0,1],⟨[0,1,2,3,8,9],[⟨.fix 70000,70000,.cells []⟩]⟩)] []
def zDz:K:=kR Tryz.prog [70000] ⟨[],[⟨.fix 70000,70000,.cells []⟩]⟩ [70000] Tryz.f82.results.toList
def zkR(F f1:Nat)(x y vi1:Int)(vl2:List zk):=zcI ztp zD1 zDz F [] [1,0] f1 [(0,.arr 70000),(1,pI x),(2,pI y),(3,.clo (.func 30) [.p .nil] []),(8,pI vi1)] [(70000,.larr 64 true 3 (.dat zt vl2))]
def zkQ(F f1 f2:Nat)(x y vi1 vi3:Int)(vl4:List zk):=zcI ztp zD1 zDz F [f1] [1,0,0,1,0,0,1,0] f2 [(0,.arr 70000),(1,pI x),(2,pI y),(3,.clo (.func 30) [.p .nil] []),(8,pI vi1),(9,pI vi3)] [(70000,.larr 64 true 3 (.dat zt vl4))]
def zof(F f1 f2:Nat)(x y vi1 vi3:Int)(vc5:Bool)(vl4:List zk):=zcv ztp zD1 zDz F [f1,f2] [1,0,0,1,0,0,1,0,0,0,1] [(0,.arr 70000),(1,pI x),(2,pI y),(3,.clo (.func 30) [.p .nil] []),(8,pI vi1),(9,pI vi3),(34,pB vc5)] [(70000,.larr 64 true 3 (.dat zt vl4))]
def zwA(F f1 f2:Nat)(x y vi1 vi3:Int)(vl6:List zk):=zcv ztp zD1 zDz F [f1,f2] [1,0,0,1,0,0,1,0,0,1,1] [(0,.arr 70000),(1,pI x),(2,pI y),(3,.clo (.func 30) [.p .nil] []),(8,pI vi1),(9,pI vi3)] [(70000,.larr 64 true 3 (.dat zt vl6))]
def zML(F:Nat)(x y:Int)(l:List zk):=zam ztp Tryz.f82 ⟨[],[⟨.fix 70000,70000,.cells []⟩]⟩ [70000] F [.arr 70000,pI x,pI y,.clo (.func 30) [.p .nil] []] [(70000,.larr 64 true 3 (.dat zt l))]
theorem zrd(F f1 x y vi1 vl2):zkR F (f1+1) x y vi1 vl2=cond (decide (vi1<y)) (zkQ F f1 f1 x y vi1 vi1 vl2) (some (.tup [],[(70000,.larr 64 true 3 (.dat zt vl2))])):=by kernel_rfl
theorem zrc(F f1 f2 x y vi1 vi3 vl4):letI A:=decide (vi3>x);letI B:=(0:Int);letI C:=vi3-1;letI D:=(vl4.length:Int);zkQ F f1 (f2+1) x y vi1 vi3 vl4=ze (A=true->0<=vi3/\vi3<D) (ze (A=true->vi3.toNat<vl4.length) (ze (A=true->zh C) (ze (A=true->0<=C/\C<D) (ze (A=true->C.toNat<vl4.length) (zof F f1 f2 x y vi1 vi3 (A&&(decide ((zab (vl4.getD vi3.toNat (((B,(B,([],(B,([],([],(B,B))))))),([],[])),([],[]))).1.1.1 (vl4.getD C.toNat (((B,(B,([],(B,([],([],(B,B))))))),([],[])),([],[]))).1.1.1)<0))) vl4))))):=letI A:=(decide (vi3>x))=true;Eq.trans (by kernel_rfl) (nI A (nI A (zf (nI A (zf (nI A (zf (nI A (nI A (zf (nI A (zf (nI A (nI A (nI A (nI A (nI A rfl)))))))))))))))))
theorem zrb(F f1 f2 x y vi1 vi3 vc5 vl4):letI B:=vl4.getD vi3.toNat ((((0:Int),((0:Int),([],((0:Int),([],([],((0:Int),(0:Int)))))))),([],[])),([],[]));letI D:=vi3-1;letI A:=vl4.getD D.toNat ((((0:Int),((0:Int),([],((0:Int),([],([],((0:Int),(0:Int)))))))),([],[])),([],[]));letI C:=vl4.set vi3.toNat (A.1,(A.2.1,A.2.2));letI E:=0<=vi3/\vi3<(vl4.length:Int);letI H:=vi3.toNat<vl4.length;zof F f1 f2 x y vi1 vi3 vc5 vl4=cond vc5 (ze (zh D) (ze (zh D) (ze (0<=D/\D<(vl4.length:Int)) (ze (D.toNat<vl4.length) (ze E (ze H (ze E (ze H (ze (0<=D/\D<(C.length:Int)) (ze (D.toNat<C.length) (zwA F f1 f2 x y vi1 vi3 (C.set D.toNat (B.1,(B.2.1,B.2.2)))))))))))))) (ze (zh (vi1+1)) (zkR F f1 x y (vi1+1) vl4)):=by kernel_rfl
theorem zC3(F f1 f2 x y vi1 vi3 vl6):zwA F f1 f2 x y vi1 vi3 vl6=ze (zh (vi3-1)) (zkQ F f1 f2 x y vi1 (vi3-1) vl6):=by kernel_rfl
theorem zMK(F x y l):zML F x y l=ze (zh (x+1)) (zkR F F x y (x+1) l):=by kernel_rfl
theorem zPn(F x y l r os):IsR 82 (zML F x y l) [.arr 70000,.p (.int .i64 x),.p (.int .i64 y),.clo (.func 30) [.p .nil] []] [(70000,.larr 64 true 3 (.dat zt l))] [70000] r os:=zb9 ztp ⟨[],[⟨.fix 70000,70000,.cells []⟩]⟩ [70000] rfl ⟨zJg.any,trivial⟩
theorem zOK(a b:zk):zML 3 0 2 [a,b]=some (.tup [],[(70000,.larr 64 true 3 (.dat zt (zcr [a,b])))]):=by
 rw[zMK]
 refine zd (by decide) ?_
 show zkR 3 (2+1) 0 2 1 [a,b]=_
 rw[zrd]
 refine zi (by decide) ?_
 show zkQ 3 2 (1+1) 0 2 1 1 [a,b]=_
 rw[zrc]
 refine zd (fun _=>by simp) (zd (fun _=>by simp) (zd (fun _=>by decide) (zd (fun _=>by simp) (zd (fun _=>by simp) ?_))))
 show zof 3 2 1 0 2 1 1 (decide (zab b.1.1.1 a.1.1.1<0)) [a,b]=_
 rw[zrb,zcr]
 have hend:∀ x y:zk,zkR 3 (1+1) 0 2 2 [x,y]=some (.tup [],[(70000,.larr 64 true 3 (.dat zt [x,y]))]):=fun x y=>by
  rw[zrd];exact zg (by decide) rfl
 by_cases hc:zab b.1.1.1 a.1.1.1<0
 .rw [if_pos hc]
  refine zi (by simpa using hc) (zd (by decide) (zd (by decide) (zd (by simp) (zd (by simp) (zd (by simp) (zd (by simp) (zd (by simp) (zd (by simp) (zd (by simp) (zd (by simp) ?_))))))))))
  show zwA 3 2 1 0 2 1 1 [b,a]=_
  rw[zC3]
  refine zd (by decide) ?_
  show zkQ 3 2 (0+1) 0 2 1 0 [b,a]=_
  rw[zrc]
  refine zd (fun h=>absurd h (by decide)) (zd (fun h=>absurd h (by decide)) (zd (fun h=>absurd h (by decide)) (zd (fun h=>absurd h (by decide)) (zd (fun h=>absurd h (by decide)) ?_))))
  show zof 3 2 0 0 2 1 0 false [b,a]=_
  rw[zrb]
  exact zg rfl (zd (by decide) (hend b a))
 .rw [if_neg hc]
  exact zg (by simpa using hc) (zd (by decide) (hend a b))
theorem zzK{α:Type}{l:List α}(h:l.length=2):∃ a b,l=[a,b]:=by
 match l,h with
 | [a,b],_=>exact⟨a,b,rfl⟩
def zuh:yM:=⟨[false,true,true,true],fun args ib=>match args,ib with
 | [.arr 70000,.p (.int .i64 x),.p (.int .i64 y),.clo (.func 30) [.p .nil] []],[(70000,.larr 64 true 3 R)]=>match zA zt (.list 3 R)with
  | some l=>some (([70000],.tup []),([(70000,.larr 64 true 3 (.dat zt (zcr l)))],some (x=0/\y=2/\l.length=2)))
  | none=>none
 | _,_=>none⟩
theorem zOv:zS Tryz.prog 82 zuh:=by
 intro args ib kept r zZ ok he hok
 simp only[zuh]at he
 split at he
 .rename_i x y R
  split at he
  .rename_i l hl
   cases he
   obtain⟨rfl,_⟩:=zaj hl
   obtain⟨rfl,rfl,h2⟩:x=0/\y=2/\l.length=2:=hok
   obtain⟨a,b,rfl⟩:=zzK h2
   exact⟨by kernel_rfl,zPn 3 0 2 [a,b] _ _ fun _=>zOK a b⟩
  .cases he
 .cases he
def ztY:yM:=⟨[false,true,true,true,true],fun args ib=>match args,ib with
 | [.arr 70000,.p (.int .i64 _),.p (.int .i64 _),.p (.int .i64 _),.clo (.func 30) [.p .nil] []],[(70000,.larr 64 true 3 R)]=>match zA zt (.list 3 R)with
  | some l=>some (([70000],.tup []),([(70000,.larr 64 true 3 (.dat zt l))],some False))
  | none=>none
 | _,_=>none⟩
theorem zOb:zS Tryz.prog 83 ztY:=by
 intro args ib kept r zZ ok he hok
 simp only[ztY]at he
 split at he
 .split at he
  .cases he;exact absurd hok (fun h=>h)
  .cases he
 .cases he
def zKU:Code:=yw Tryz.f50
def zyh:=mkG [] [(82,zuh),(83,ztY)] 63 [70000] [([0,0,1,1],⟨[0,1,2,6,7,8],[⟨.fix 70000,70000,.cells []⟩]⟩),([0,1,1,1,1],⟨[0,1,2,6],[⟨.fix 70000,70000,.cells []⟩]⟩),([0,0,1,0,1,0,0,1,1,1,1],⟨[0,1,2,6,7,8],[⟨.fix 70000,70000,.cells []⟩]⟩),([1,1,1,0,1,0,0,1,1,1,1],⟨[0,1,2,6],[⟨.fix 70000,70000,.cells []⟩]⟩)] [([0,0,1,0,0,0,1,1],[4]),([0,1,1,1],[4]),([0,0,1,0,0,0,1,0,1,0,0,1,1,1,1],[7]),([0,1,1,0,1,1,0,1,0,0,1,1,1,1],[5])]
def zJu:K:=kR Tryz.prog [70000] ⟨[],[⟨.fix 70000,70000,.cells []⟩]⟩ [70000] Tryz.f50.results.toList
def zoa(F f1:Nat)(n vi1 vi2:Int)(vl3:List zk):=zcI zyh zKU zJu F [] [1,1,0,0] f1 [(0,.arr 70000),(1,pI n),(2,.clo (.func 30) [.p .nil] []),(6,pI 20),(7,pI vi1),(8,pI vi2)] [(70000,.larr 64 true 3 (.dat zt vl3))]
def zv5(F f2:Nat)(n vi4:Int)(vl5:List zk):=zcI zyh zKU zJu F [] [1,1,1,1,0] f2 [(0,.arr 70000),(1,pI n),(2,.clo (.func 30) [.p .nil] []),(6,pI vi4)] [(70000,.larr 64 true 3 (.dat zt vl5))]
def zQu(F f2 f3:Nat)(n vi4 vi6 vi7:Int)(vl8:List zk):=zcI zyh zKU zJu F [f2] [1,1,1,1,0,0,1,0,1,0,0] f3 [(0,.arr 70000),(1,pI n),(2,.clo (.func 30) [.p .nil] []),(6,pI vi4),(7,pI vi6),(8,pI vi7)] [(70000,.larr 64 true 3 (.dat zt vl8))]
def zMa(F:Nat)(n:Int)(l:List zk):=zam zyh Tryz.f50 ⟨[],[⟨.fix 70000,70000,.cells []⟩]⟩ [70000] F [.arr 70000,pI n,.clo (.func 30) [.p .nil] []] [(70000,.larr 64 true 3 (.dat zt l))]
theorem zCP(F f1 n vi1 vi2 vl3):zoa F (f1+1) n vi1 vi2 vl3=cond (decide (vi2<=n)) (ze (vi1=0/\vi2=2/\vl3.length=2) (ze (zh (vi2+20)) (zoa F f1 n vi2 (vi2+20) (zcr vl3)))) (ze (vi1=0/\n=2/\vl3.length=2) (zv5 F F n 20 (zcr vl3))):=by kernel_rfl
theorem zCO(F f2 n vi4 vl5):zv5 F (f2+1) n vi4 vl5=cond (decide (vi4<n)) (ze (zh (2*vi4)) (zQu F f2 f2 n vi4 0 (2*vi4) vl5)) (some (.tup [],[(70000,.larr 64 true 3 (.dat zt vl5))])):=by kernel_rfl
theorem zL9(F n l):zMa F n l=zoa F F n 0 20 l:=by kernel_rfl
theorem zO4(F n l r os):IsR 50 (zMa F n l) [.arr 70000,.p (.int .i64 n),.clo (.func 30) [.p .nil] []] [(70000,.larr 64 true 3 (.dat zt l))] [70000] r os:=zb9 zyh ⟨[],[⟨.fix 70000,70000,.cells []⟩]⟩ [70000] rfl trivial (hr:=⟨zOv,zOb,trivial⟩)
theorem zNA(l:List zk)(h:l.length=2):zMa 1 2 l=some (.tup [],[(70000,.larr 64 true 3 (.dat zt (zcr l)))]):=by
 rw[zL9]
 show zoa 1 (0+1) 2 0 20 l=_
 rw[zCP]
 refine zg (by decide) (zd ⟨rfl,rfl,h⟩ ?_)
 show zv5 1 (0+1) 2 20 (zcr l)=_
 rw[zCO]
 exact zg (by decide) rfl
def zt1:yM:=⟨[false,true,true],fun args ib=>match args,ib with
 | [.arr 70000,.p (.int .i64 n),.clo (.func 30) [.p .nil] []],[(70000,.larr 64 true 3 R)]=>match zA zt (.list 3 R)with
  | some l=>some (([70000],.tup []),([(70000,.larr 64 true 3 (.dat zt (zcr l)))],some (n=2/\l.length=2)))
  | none=>none
 | _,_=>none⟩
theorem zOe:zS Tryz.prog 50 zt1:=by
 intro args ib kept r zZ ok he hok
 simp only[zt1]at he
 split at he
 .rename_i n R
  split at he
  .rename_i l hl
   cases he
   obtain⟨rfl,_⟩:=zaj hl
   obtain⟨rfl,h2⟩:n=2/\l.length=2:=hok
   exact⟨by kernel_rfl,zO4 1 2 l _ _ fun _=>zNA l h2⟩
  .cases he
 .cases he
def zQU:=mkG [] [(50,zt1)] 9 [70000] [] [([],[4])]
def zRc(F:Nat)(l:List zk):=zam zQU Tryz.f29 ⟨[],[⟨.fix 70000,70000,.cells []⟩]⟩ [70000] F [.arr 70000,.clo (.func 30) [.p .nil] []] [(70000,.larr 64 true 3 (.dat zt l))]
theorem zMc(F l):zRc F l=ze ((l.length:Int)=2/\l.length=2) (some (.tup [],[(70000,.larr 64 true 3 (.dat zt (zcr l)))])):=by kernel_rfl
theorem zO6(F l r os):IsR 29 (zRc F l) [.arr 70000,.clo (.func 30) [.p .nil] []] [(70000,.larr 64 true 3 (.dat zt l))] [70000] r os:=zb9 zQU ⟨[],[⟨.fix 70000,70000,.cells []⟩]⟩ [70000] rfl trivial (hr:=⟨zOe,trivial⟩)
def zt3:yM:=⟨[false,true],fun args ib=>match args,ib with
 | [.arr 70000,.clo (.func 30) [.p .nil] []],[(70000,.larr 64 true 3 R)]=>match zA zt (.list 3 R)with
  | some l=>some (([70000],.tup []),([(70000,.larr 64 true 3 (.dat zt (zcr l)))],some (l.length=2)))
  | none=>none
 | _,_=>none⟩
theorem zOg:zS Tryz.prog 29 zt3:=by
 intro args ib kept r zZ ok he hok
 simp only[zt3]at he
 split at he
 .rename_i R
  split at he
  .rename_i l hl
   cases he
   obtain⟨rfl,_⟩:=zaj hl
   have h2:l.length=2:=hok
   exact⟨by kernel_rfl,zO6 0 l _ _ fun _=>by rw[zMc];exact zd ⟨by omega,h2⟩ rfl⟩
  .cases he
 .cases he
def zcA(i:Int):List Int->List Int->Option (List Int)
 | [],acc=>some acc
 | k::r,acc=>if k<0\/k>=i then none else zcA i r (acc.set k.toNat (acc.getD k.toNat 0+1))
def goR:Nat->List zr->List Int->Option (List Int)
 | _,[],acc=>some acc
 | i,t::r,acc=>if t.1<1\/t.1>16 then none else match zcA (i:Int) t.2.2.2.2.2 acc with
  | none=>none
  | some acc'=>goR (i+1) r acc'
def zaq(f:List zr):Bool:=if f.length>40 then false else match goR 0 f (List.replicate f.length 0)with
 | none=>false
 | some acc=>(acc.take (f.length-1)).all fun x=>x==1
abbrev zbI(f:List zr):Prop:=f.length<=1000000/\∀ t ∈ f,t.2.2.2.2.2.length<=1000000
def ziY:=mkG [] [] 64 [] [([0,1,0,1,1,1],⟨[0,3,15,16,17],[⟨.slot 3,3,.cells []⟩]⟩),([1,0,1,0,0,1,1,0,0,1,0,1,1,1],⟨[0,3,4,5,15,16,17,29],[⟨.slot 3,3,.cells []⟩,⟨.slot 5,5,.cells []⟩]⟩),([0,1,1,1,0,0,1,1,0,0,1,0,1,1,1],⟨[0,3,4,15,16,17,31,32,33],[⟨.slot 3,3,.cells []⟩]⟩),([1,0,1,0,0,1,1,0,0,1,1,1,0,0,1,1,0,0,1,0,1,1,1],⟨[0,3,4,7,15,16,17,31,32,33,43],[⟨.slot 3,3,.cells []⟩]⟩),([0,1,0,1,1,1,1],⟨[0,3,8],[⟨.slot 3,3,.cells []⟩]⟩)] []
def zgE(F f1:Nat)(f:List zr)(vi1 vi2:Int)(vl3:List Int):=zH ziY Tryz.f21 F [] [1,1,1,0,1,0] f1 [(0,pL 6 zu f),(3,.arr 3),(15,pL 6 zu f),(16,pI vi1),(17,pI vi2)] [(3,.larr 3 true 1 (.dat (.int .i64) vl3))]
def zyS(F f1:Nat)(f:List zr)(vi2 vi1:Int)(vc4:Bool)(vl3:List Int)(vi5 vi6:Int)(vs7 vs8:List UInt8)(vl9:List (Int×Int))(vl10:List Int):=zx ziY Tryz.f21 F [f1] [1,1,1,0,1,0,0,1,1,0,0,1,0,1] [(0,pL 6 zu f),(3,.arr 3),(4,pI vi2),(5,.ref 5 0),(15,pL 6 zu f),(16,pI vi1),(17,pI vi2),(29,pB vc4)] [(3,.larr 3 true 1 (.dat (.int .i64) vl3)),(5,.cells [pI vi5,pI vi6,pS vs7,pS vs8,pL 2 (.pair (.int .i64) (.int .i64)) vl9,pL 1 (.int .i64) vl10])]
def zko(F f1 f2:Nat)(f:List zr)(vi2 vi1:Int)(vl10:List Int)(vi11 vi12:Int)(vl13:List Int):=zH ziY Tryz.f21 F [f1] [1,1,1,0,1,0,0,1,1,0,0,1,1,1,0] f2 [(0,pL 6 zu f),(3,.arr 3),(4,pI vi2),(15,pL 6 zu f),(16,pI vi1),(17,pI vi2),(31,pL 1 (.int .i64) vl10),(32,pI vi11),(33,pI vi12)] [(3,.larr 3 true 1 (.dat (.int .i64) vl13))]
def zyQ(F f1 f2:Nat)(f:List zr)(vi2 vi14 vi1:Int)(vl10:List Int)(vi11 vi12:Int)(vc15:Bool)(vl13:List Int):=zx ziY Tryz.f21 F [f1,f2] [1,1,1,0,1,0,0,1,1,0,0,1,1,1,0,0,1,1,0,0,1,0,1] [(0,pL 6 zu f),(3,.arr 3),(4,pI vi2),(7,pI vi14),(15,pL 6 zu f),(16,pI vi1),(17,pI vi2),(31,pL 1 (.int .i64) vl10),(32,pI vi11),(33,pI vi12),(43,pB vc15)] [(3,.larr 3 true 1 (.dat (.int .i64) vl13))]
def zgD(F f3:Nat)(f:List zr)(vi16:Int)(vl3:List Int):=zH ziY Tryz.f21 F [] [1,1,1,1,0,1,0] f3 [(0,pL 6 zu f),(3,.arr 3),(8,pI vi16)] [(3,.larr 3 true 1 (.dat (.int .i64) vl3))]
def zBO(F:Nat)(f:List zr):=zF ziY Tryz.f21 F [pL 6 zu f]
theorem zm2(F f1 f vi1 vi2 vl3):letI A:=f.getD vi2.toNat ((0:Int),((0:Int),([],([],([],[])))));zgE F (f1+1) f vi1 vi2 vl3=cond (decide (vi2<vi1)) (ze (0<=vi2/\vi2<(f.length:Int)) (zyS F f1 f vi2 vi1 ((decide (A.1<1))||(decide (A.1>16))) vl3 A.1 A.2.1 A.2.2.1 A.2.2.2.1 A.2.2.2.2.1 A.2.2.2.2.2)) (zgD F F f 0 vl3):=letI A:=decide ((f.getD vi2.toNat ((0:Int),((0:Int),([],([],([],[])))))).1<1);Eq.trans (by kernel_rfl) (zj (zf (nI ((!A)=true) (nI ((!A)=true) (nN A rfl)))) rfl)
theorem zyR(F f1 f vi2 vi1 vc4 vl3 vi5 vi6 vs7 vs8 vl9 vl10):zyS F f1 f vi2 vi1 vc4 vl3 vi5 vi6 vs7 vs8 vl9 vl10=cond vc4 (some (.p (.bool false),[])) (zko F f1 f1 f vi2 vi1 vl10 (vl10.length:Int) 0 vl3):=by kernel_rfl
theorem zm1(F f1 f2 f vi2 vi1 vl10 vi11 vi12 vl13):letI A:=vl10.getD vi12.toNat (0:Int);zko F f1 (f2+1) f vi2 vi1 vl10 vi11 vi12 vl13=cond (decide (vi12<vi11)) (ze (0<=vi12/\vi12<(vl10.length:Int)) (zyQ F f1 f2 f vi2 A vi1 vl10 vi11 vi12 ((decide (A<0))||(decide (A>=vi2))) vl13)) (ze (zh (vi2+1)) (zgE F f1 f vi1 (vi2+1) vl13)):=letI A:=decide ((vl10.getD vi12.toNat (0:Int))<0);Eq.trans (by kernel_rfl) (zj (zf (nI ((!A)=true) (nI ((!A)=true) (nN A rfl)))) rfl)
theorem zyP(F f1 f2 f vi2 vi14 vi1 vl10 vi11 vi12 vc15 vl13):letI A:=0<=vi14/\vi14<(vl13.length:Int);letI B:=(vl13.getD vi14.toNat (0:Int))+1;letI C:=vi14.toNat<vl13.length;zyQ F f1 f2 f vi2 vi14 vi1 vl10 vi11 vi12 vc15 vl13=cond vc15 (some (.p (.bool false),[])) (ze A (ze C (ze (zh B) (ze A (ze C (ze (zh (vi12+1)) (zko F f1 f2 f vi2 vi1 vl10 vi11 (vi12+1) (vl13.set vi14.toNat B)))))))):=by kernel_rfl
theorem zm0(F f3 f vi16 vl3):letI A:=vi16+1;zgD F (f3+1) f vi16 vl3=ze (zh A) (cond (decide (A<(f.length:Int))) (ze (0<=vi16/\vi16<(vl3.length:Int)) (ze (vi16.toNat<vl3.length) (cond ((vl3.getD vi16.toNat (0:Int)) != 1) (some (.p (.bool false),[])) (ze (zh A) (zgD F f3 f A vl3))))) (some (.p (.bool true),[]))):=by kernel_rfl
theorem zG8(F f):letI A:=(f.length:Int);zBO F f=cond (decide (A>40)) (some (.p (.bool false),[])) (ze (0<=A/\A<=A/\(8:Int)*A<=281474976710656/\A<=9223372036854775807) (zgE F F f A 0 (List.replicate A.toNat (0:Int)))):=by kernel_rfl
theorem zxF(F f r):IsP 21 (zBO F f) [.p (.list 6 (.dat zu f))] r:=zG ziY rfl trivial
theorem zhb(i:Int):∀ (r acc out:List Int),zcA i r acc=some out->out.length=acc.length
 | [],acc,out,h=>by cases h;rfl
 | k::r,acc,out,h=>by
  rw[zcA]at h
  split at h
  .cases h
  .rw [zhb i r _ out h];simp
theorem zpx(i M:Int):∀ (r acc out:List Int),zcA i r acc=some out->(∀ x ∈ acc,0<=x/\x<=M)->0<=M->∀ x ∈ out,0<=x/\x<=M+r.length
 | [],acc,out,h,ha,hM=>by cases h;intro x hx;have:=ha x hx;simp;exact this
 | k::r,acc,out,h,ha,hM=>by
  rw[zcA]at h
  split at h
  .cases h
  .intro x hx
   have h1:∀ y ∈ acc.set k.toNat (acc.getD k.toNat 0+1),0<=y/\y<=M+1:=by
    intro y hy
    rcases List.mem_or_eq_of_mem_set hy with hy|hy
    .have:=ha y hy;omega
    .rw [hy]
     by_cases hl:k.toNat<acc.length
     .have:=ha _ (yi hl 0);omega
     .rw [List.getD_eq_getElem?_getD,List.getElem?_eq_none (by omega)];simp;omega
   have:=zpx i (M+1) r _ out h h1 (by omega) x hx
   rw[List.length_cons];omega
theorem zrU(F f1:Nat)(f:List zr)(i n:Nat)(hi:i<=1000000)(kids:List Int)(hk:kids.length<=1000000):∀ (r:List Int) (f2 j:Nat) (acc:List Int),kids.drop j=r->r.length<f2->j<=kids.length->i<=acc.length->(∀ x ∈ acc,0<=x/\x<=1000000*1000000+j)->
 zko F f1 f2 f (i:Int) (n:Int) kids (kids.length:Int) (j:Int) acc=match zcA (i:Int) r acc with
  | none=>some (.p (.bool false),[])
  | some acc'=>zgE F f1 f (n:Int) ((i+1:Nat):Int) acc':=by
 intro r
 induction r with
 | nil=>
  intro f2 j acc hd hf hj ha hb
  have:j=kids.length:=by have:=congrArg List.length hd;simp at this;omega
  cases f2 with
  | zero=>omega
  | succ f2=>
   rw[zm1]
   exact zg (by simp;omega) (zd (by unfold zh;omega) rfl)
 | cons k r ih=>
  intro f2 j acc hd hf hj ha hb
  obtain⟨h1,h2,h3⟩:=yF hd (0:Int)
  cases f2 with
  | zero=>omega
  | succ f2=>
   rw[zm1,Int.toNat_natCast,h1]
   refine zi (by simp;omega) (zd ⟨by omega,by omega⟩ ?_)
   rw[zyP,zcA]
   by_cases hc:k<0\/k>=(i:Int)
   .rw [if_pos hc]
    exact zi (by rcases hc with h|h <;> simp[h]) rfl
   .rw [if_neg hc]
    have hk0:0<=k:=by
     rcases Int.lt_or_le k 0 with h|h
     .exact absurd (.inl h) hc
     .exact h
    have hki:k<(i:Int):=by
     rcases Int.lt_or_le k (i:Int)with h|h
     .exact h
     .exact absurd (.inr h) hc
    have hg:=hb _ (yi (show k.toNat<acc.length by omega) 0)
    refine zg (by rw[Bool.or_eq_false_iff,decide_eq_false_iff_not,decide_eq_false_iff_not];omega) (zd ⟨hk0,by omega⟩ (zd (by omega) (zd (by unfold zh;omega) (zd ⟨hk0,by omega⟩ (zd (by omega) (zd (by unfold zh;omega) ?_))))))
    rw[show(j:Int)+1=((j+1:Nat):Int) by omega]
    refine ih f2 (j+1) _ h2 (by simp at hf;omega) (by omega) (by simpa using ha) fun y hy=>?_
    rcases List.mem_or_eq_of_mem_set hy with hy|hy
    .have:=hb y hy;omega
    .rw [hy];omega
theorem zrV(F:Nat)(f:List zr)(hf40:f.length<=40)(hks:∀ t ∈ f,t.2.2.2.2.2.length<=1000000):∀ (r:List zr) (f1 i:Nat) (acc:List Int),f.drop i=r->r.length+1000001<f1->i<=f.length->acc.length=f.length->(∀ x ∈ acc,0<=x/\x<=1000000*i)->
 zgE F f1 f (f.length:Int) (i:Int) acc=match goR i r acc with
  | none=>some (.p (.bool false),[])
  | some acc'=>zgD F F f (0:Int) acc':=by
 intro r
 induction r with
 | nil=>
  intro f1 i acc hd hf hi ha hb
  have:i=f.length:=by have:=congrArg List.length hd;simp at this;omega
  cases f1 with
  | zero=>omega
  | succ f1=>
   rw[zm2]
   exact zg (by simp;omega) rfl
 | cons t r ih=>
  intro f1 i acc hd hf hi ha hb
  obtain⟨h1,h2,h3⟩:=yF hd ((0:Int),((0:Int),(([]:List UInt8),(([]:List UInt8),(([]:List (Int×Int)),([]:List Int))))))
  have ht:t ∈ f:=by rw[<-h1];exact yi h3 _
  simp only[List.length_cons]at hf
  cases f1 with
  | zero=>omega
  | succ f1=>
   rw[zm2,Int.toNat_natCast,h1]
   refine zi (by simp;omega) (zd ⟨by omega,by omega⟩ ?_)
   rw[zyR,goR]
   by_cases hc:t.1<1\/t.1>16
   .rw [if_pos hc]
    exact zi (by rcases hc with h|h <;> simp[h]) rfl
   .rw [if_neg hc]
    refine zg (by rw[Bool.or_eq_false_iff,decide_eq_false_iff_not,decide_eq_false_iff_not];omega) ?_
    have hks':=hks t ht
    rw[show(0:Int)=((0:Nat):Int) from rfl,zrU F f1 f i f.length (by omega) t.2.2.2.2.2 hks' t.2.2.2.2.2 f1 0 acc rfl (by omega) (by omega) (by omega) (fun x hx=>by have:=hb x hx;omega)]
    cases hkr:zcA (i:Int) t.2.2.2.2.2 acc with
    | none=>rfl
    | some acc'=>
     dsimp only
     refine ih f1 (i+1) acc' h2 (by omega) (by omega) (by rw[zhb _ _ _ _ hkr];exact ha) fun x hx=>?_
     have:=zpx (i:Int) (1000000*i) _ _ _ hkr hb (by omega) x hx
     omega
theorem zrT(F:Nat)(f:List zr)(hf40:f.length<=40)(acc:List Int)(ha:acc.length=f.length):∀ (m f3 i:Nat),i+m=f.length-1->m<f3->
 zgD F f3 f (i:Int) acc=some (.p (.bool (((acc.take (f.length-1)).drop i).all fun x=>x==1)),[]):=by
 intro m
 induction m with
 | zero=>
  intro f3 i hi hf
  cases f3 with
  | zero=>omega
  | succ f3=>
   rw[zm0]
   refine zd (by unfold zh;omega) (zg (by simp;omega) ?_)
   rw[List.drop_eq_nil_of_le (by rw[List.length_take];omega)];rfl
 | succ m ih=>
  intro f3 i hi hf
  have hlt:i<(acc.take (f.length-1)).length:=by rw[List.length_take];omega
  have hd:(acc.take (f.length-1)).drop i=acc.getD i 0::(acc.take (f.length-1)).drop (i+1):=by
   rw[List.drop_eq_getElem_cons hlt,List.getElem_take,List.getD_eq_getElem?_getD,List.getElem?_eq_getElem (by omega)];rfl
  cases f3 with
  | zero=>omega
  | succ f3=>
   rw[zm0,Int.toNat_natCast,hd,List.all_cons]
   refine zd (by unfold zh;omega) (zi (by simp;omega) (zd ⟨by omega,by omega⟩ (zd (by omega) ?_)))
   cases hc:acc.getD i 0==(1:Int)with
   | false=>exact zi (by rw[bne,hc];rfl) rfl
   | true=>
    refine zg (by rw[bne,hc];rfl) (zd (by unfold zh;omega) ?_)
    rw[show(i:Int)+1=((i+1:Nat):Int) by omega,ih f3 (i+1) (by omega) (by omega),Bool.true_and]
theorem znU:∀ (r:List zr) (i:Nat) (acc out:List Int),goR i r acc=some out->out.length=acc.length
 | [],i,acc,out,h=>by cases h;rfl
 | t::r,i,acc,out,h=>by
  rw[goR]at h
  split at h
  .cases h
  .split at h
   .cases h
   .rename_i acc' hk
    rw[znU r _ _ out h,zhb _ _ _ _ hk]
theorem zwY(f:List zr)(hk:zbI f):zBO (f.length+1000003) f=some (.p (.bool (zaq f)),[]):=by
 rw[zG8,zaq]
 by_cases h40:f.length>40
 .rw [if_pos h40];exact zi (by simp;omega) rfl
 .rw [if_neg h40]
  refine zg (by simp;omega) (zd ⟨by omega,by omega,by omega,by omega⟩ ?_)
  rw[Int.toNat_natCast,show(0:Int)=((0:Nat):Int) from rfl,zrV _ f (by omega) hk.2 f _ 0 _ rfl (by omega) (by omega) (by simp) (fun x hx=>by rw[(List.mem_replicate.1 hx).2];omega)]
  cases hg:goR 0 f (List.replicate f.length ((0:Nat):Int))with
  | none=>rfl
  | some acc=>
   dsimp only
   have hl:=znU _ _ _ _ hg
   rw[List.length_replicate]at hl
   exact zrT _ f (by omega) acc hl (f.length-1) _ 0 (by omega) (by omega)
def zi9:List AV->Option (AV×Option Prop)
 | [.p .nil]=>some (.p (.bool true),none)
 | [.p (.list 6 R)]=>match zA zu (.list 6 R)with
  | some f=>some (.p (.bool (zaq f)),some (zbI f))
  | none=>none
 | _=>none
theorem zxd:zn Tryz.prog 21 zi9:=by
 intro zs r ok he hok
 unfold zi9 at he
 split at he
 .cases he
  exact⟨by kernel_rfl,zj6 (fun M vs h=>by
   cases h with|cons h1 h=>
   cases h
   exact .cons (zp.nil_list (R:=.dat zu []) (k:=6) rfl h1) .nil) (zxF (1000003) [] _ fun _=>zwY [] ⟨by simp,by simp⟩)⟩
 .rename_i R
  split at he
  .rename_i f hf
   cases he
   obtain⟨rfl,_⟩:=zaj hf
   exact⟨by kernel_rfl,zxF (_) f _ fun _=>zwY f hok⟩
  .cases he
 .cases he
theorem zIb:zbH []=[]:=by
 have hv:zf4 []=[]:=by kernel_rfl
 have hw:zcm []=[]:=List.eq_nil_of_length_eq_zero (by have:=zex [];simpa using this)
 have hs:zdo []=[]:=by kernel_rfl
 unfold zbH
 rw[hv,hw,hs]
def zAj(m:zq):zk:=(zbX m,([],zL (zbH m.2.2.1)))
theorem zN5(m:zq):(zAj m).1.1.1=m.1:=rfl
def zpe(l:List zq):List Int:=(zcr (l.map zAj)).map fun x=>x.1.1.1
abbrev zRI(l:List zq):Prop:=l.length=2/\∀ m ∈ l,m.2.2.1=[]
def zlv:List AV->Option (AV×Option Prop)
 | [.p (.box 10 _),.p .nil,.p (.int .i64 _)]=>some (.p (.bool false),some False)
 | _=>none
theorem zFG:zn Tryz.prog 23 zlv:=by
 intro zs r ok he hok
 unfold zlv at he
 split at he
 .cases he;exact absurd hok (fun h=>h)
 .cases he
def zfy:=mkG [(21,zi9),(22,zgY),(23,zlv),(26,zoU),(27,zcW),(28,ze8)] [(29,zt3)] 74 [] [([0,1,0,1,1,1],⟨[1,2,7,17,18,19],[⟨.slot 7,7,(.larr 64 true 3 (.dat zt ([]:List zk)))⟩]⟩),([1,0,0,1,1,0,0,1,0,1,1,1],⟨[1,2,7,9,17,18,19],[⟨.slot 7,7,(.larr 64 true 3 (.dat zt ([]:List zk)))⟩,⟨.slot 9,9,.cells []⟩]⟩),([1,1,1,0,0,1,0,1,1,1],⟨[1,2,7,17,18,19],[⟨.slot 7,7,(.larr 64 true 3 (.dat zt ([]:List zk)))⟩]⟩),([0,1,0,1,1,1,1,1,1],⟨[11,57,58,59],[⟨.slot 11,11,(.larr 3 false 1 (.dat (.int .i64) ([]:List Int)))⟩,⟨.slot 57,57,.cells []⟩]⟩),([1,0,0,1,1,0,0,1,0,1,1,1,1,1,1],⟨[11,13,57,58,59],[⟨.slot 11,11,(.larr 3 false 1 (.dat (.int .i64) ([]:List Int)))⟩,⟨.slot 13,13,.cells []⟩,⟨.slot 57,57,.cells []⟩]⟩)] [([0,1,1,1,1],[3])]
def zce(F f1:Nat)(l:List zq)(vi1 vi2:Int)(vl3:List zk):=zH zfy Tryz.f16 F [] [1,1,1,0,1,0] f1 [(1,.p .nil),(2,.p .nil),(7,.arr 7),(17,pL 8 zE l),(18,pI vi1),(19,pI vi2)] [(7,.larr 64 true 3 (.dat zt vl3))]
def zmi(F f1:Nat)(l:List zq)(vi1 vi2:Int)(vl3:List zk)(vi4 vi5:Int)(vs6:List UInt8)(vi7:Int)(vl8:List (List UInt8))(vl9:List (Int×Int))(vi10 vi11:Int):=zx zfy Tryz.f16 F [f1] [1,1,1,0,1,0,0,1,1,0,0,1] [(1,.p .nil),(2,.p .nil),(7,.arr 7),(9,.ref 9 0),(17,pL 8 zE l),(18,pI vi1),(19,pI vi2)] [(7,.larr 64 true 3 (.dat zt vl3)),(9,.cells [pI vi4,pI vi5,pS vs6,pI vi7,pL 1 .str vl8,pL 2 (.pair (.int .i64) (.int .i64)) vl9,pI vi10,pI vi11])]
def ztL(F f1:Nat)(l:List zq)(vi1 vi2:Int)(vl12:List zk):=zx zfy Tryz.f16 F [f1] [1,1,1,0,1,0,0,1,1,1] [(1,.p .nil),(2,.p .nil),(7,.arr 7),(17,pL 8 zE l),(18,pI vi1),(19,pI vi2)] [(7,.larr 64 true 3 (.dat zt vl12))]
def zcd(F f2:Nat)(vi13 vi14:Int)(vl15:List Int)(vl16:List zk):=zH zfy Tryz.f16 F [] [1,1,1,1,1,1,0,1,0] f2 [(11,.arr 11),(57,.arr 57),(58,pI vi13),(59,pI vi14)] [(11,.larr 3 false 1 (.dat (.int .i64) vl15)),(57,.larr 64 true 3 (.dat zt vl16))]
def ztK(F f2:Nat)(vi13 vi14:Int)(vl15:List Int)(vp17:yd)(vs18 vs19:List UInt8)(vl16:List zk):=zx zfy Tryz.f16 F [f2] [1,1,1,1,1,1,0,1,0,0,1,1,0,0,1] [(11,.arr 11),(13,.ref 13 0),(57,.arr 57),(58,pI vi13),(59,pI vi14)] [(11,.larr 3 false 1 (.dat (.int .i64) vl15)),(13,.cells [.p (.box 10 (cell zD vp17)),pS vs18,pS vs19]),(57,.larr 64 true 3 (.dat zt vl16))]
def zvQ(F:Nat)(l:List zq):=zF zfy Tryz.f16 F [pL 8 zE l,.p .nil,.p .nil]
theorem zkO(F f1 l vi1 vi2 vl3):letI A:=l.getD vi2.toNat ((0:Int),((0:Int),([],((0:Int),([],([],((0:Int),(0:Int))))))));zce F (f1+1) l vi1 vi2 vl3=cond (decide (vi2<vi1)) (ze (0<=vi2/\vi2<(l.length:Int)) (zmi F f1 l vi1 vi2 vl3 A.1 A.2.1 A.2.2.1 A.2.2.2.1 A.2.2.2.2.1 A.2.2.2.2.2.1 A.2.2.2.2.2.2.1 A.2.2.2.2.2.2.2)) (ze (vl3.length=2) (zcd F F ((zcr vl3).length:Int) 0 ([]:List Int) (zcr vl3))):=by kernel_rfl
theorem zww(F f1 l vi1 vi2 vl3 vi4 vi5 vs6 vi7 vl8 vl9 vi10 vi11):letI A:=zbH vs6;letI B:=([]:List UInt8);zmi F f1 l vi1 vi2 vl3 vi4 vi5 vs6 vi7 vl8 vl9 vi10 vi11=ze (vs6.length<=1000000) (ze (false=true->zh ((0:Int)-(1:Int))) (ze (false=true->False) (ze ((zbX (vi4,vi5,vs6,vi7,vl8,vl9,vi10,vi11)).2.1=[]) (ze (vs6.length<=50000) (ze (A.length<=140737488355328) (ze ((vl3.length+[(zbX (vi4,vi5,vs6,vi7,vl8,vl9,vi10,vi11),(B,zL A))].length)*40<=140737488355328) (ztL F f1 l vi1 vi2 (vl3++[(zbX (vi4,vi5,vs6,vi7,vl8,vl9,vi10,vi11),(B,zL A))])))))))):=letI A:=false=true;Eq.trans (by kernel_rfl) (zf (nI A (nI A (nI A (zf (nI A (nI A (nI A (zf (nI A (nI A rfl)))))))))))
theorem zwv(F f1 l vi1 vi2 vl12):ztL F f1 l vi1 vi2 vl12=ze (zh (vi2+1)) (zce F f1 l vi1 (vi2+1) vl12):=by kernel_rfl
theorem zkN(F f2 vi13 vi14 vl15 vl16):letI A:=vl16.getD vi14.toNat ((((0:Int),((0:Int),([],((0:Int),([],([],((0:Int),(0:Int)))))))),([],[])),([],[]));zcd F (f2+1) vi13 vi14 vl15 vl16=cond (decide (vi14<vi13)) (ze (0<=vi14/\vi14<(vl16.length:Int)) (ze (vi14.toNat<vl16.length) (ztK F f2 vi13 vi14 vl15 A.1 A.2.1 A.2.2 vl16))) (some (.p (.list 1 (.dat (.int .i64) vl15)),[])):=by kernel_rfl
theorem zwu(F f2 vi13 vi14 vl15 vp17 vs18 vs19 vl16):ztK F f2 vi13 vi14 vl15 vp17 vs18 vs19 vl16=ze ((vl15.length+[vp17.1.1].length)*8<=140737488355328) (ze (zh (vi14+1)) (zcd F f2 vi13 (vi14+1) (vl15++[vp17.1.1]) vl16)):=by kernel_rfl
theorem zB4(F l):zvQ F l=zce F F l (l.length:Int) 0 ([]:List zk):=by kernel_rfl
theorem zGl(F l r):IsP 16 (zvQ F l) [.p (.list 8 (.dat zE l)),.p .nil,.p .nil] r:=zG zfy rfl ⟨zxd.any,zsM.any,zFG.any,zJa.any,zfg.any,zpo.any,trivial⟩ (hr:=⟨zOg,trivial⟩)
theorem zDj(F f:Nat)(l:List zq)(n i:Int)(acc:List zk)(m:zq)(hi:i<n)(h0:0<=i)(hl:i<l.length)(hn:i<=5)(hg:∀ d,l.getD i.toNat d=m)(ht:m.2.2.1=[])(ha:acc.length<=5):
 zce F (f+1) l n i acc=zce F f l n (i+1) (acc++[zAj m]):=by
 rw[zkO]
 refine zi (by simpa using hi) (zd ⟨h0,hl⟩ ?_)
 simp only[hg]
 obtain⟨id,th,tx,at_,ke,me,mo,bo⟩:=m
 have ht:tx=[]:=ht
 subst ht
 show zmi F f l n i acc id th [] at_ ke me mo bo=_
 rw[zww]
 refine zd (by decide) (zd (fun h=>absurd h (by decide)) (zd (fun h=>absurd h (by decide)) (zd ?_ (zd (by decide) (zd (by rw[zIb];decide) (zd (by simp;omega) ?_))))))
 .show (zU [] 0 _).1=[]
  kernel_rfl
 rw[zwv]
 exact zd ⟨by omega,by omega⟩ rfl
theorem zw1(F f:Nat)(n i:Int)(acc:List Int)(l:List zk)(hi:i<n)(h0:0<=i)(hl:i<l.length)(hn:i<=5)(m:zk)(hg:∀ d,l.getD i.toNat d=m)(ha:acc.length<=5):
 zcd F (f+1) n i acc l=zcd F f n (i+1) (acc++[m.1.1.1]) l:=by
 rw[zkN]
 refine zi (by simpa using hi) (zd ⟨h0,hl⟩ (zd (by omega) ?_))
 simp only[hg]
 rw[zwu]
 exact zd (by simp;omega) (zd ⟨by omega,by omega⟩ rfl)
theorem zz2(l:List zk)(h:l.length=2)(F:Nat):zcd F 3 (2:Int) 0 [] l=some (.p (.list 1 (.dat (.int .i64) (l.map fun x=>x.1.1.1))),[]):=by
 obtain⟨a,b,rfl⟩:=zzK h
 rw[show(3:Nat)=2+1 from rfl,zw1 F 2 2 0 [] [a,b] (by decide) (by decide) (by simp) (by decide) a (fun _=>rfl) (by simp),
  show(2:Nat)=1+1 from rfl,zw1 F 1 2 (0+1) _ [a,b] (by decide) (by decide) (by simp) (by decide) b (fun _=>rfl) (by simp)]
 show zcd F (0+1) 2 2 _ _=_
 rw[zkN]
 exact zg (by decide) rfl
theorem zFk(l:List zq)(h:zRI l):zvQ 3 l=some (.p (.list 1 (.dat (.int .i64) (zpe l))),[]):=by
 obtain⟨h2,ht⟩:=h
 obtain⟨a,b,rfl⟩:=zzK h2
 rw[zB4]
 show zce 3 (2+1) [a,b] (2:Int) 0 []=_
 rw[zDj 3 2 [a,b] 2 0 [] a (by decide) (by decide) (by simp) (by decide) (fun _=>rfl) (ht a (by simp)) (by simp),
  show(2:Nat)=1+1 from rfl,zDj 3 1 [a,b] 2 (0+1) _ b (by decide) (by decide) (by simp) (by decide) (fun _=>rfl) (ht b (by simp)) (by simp)]
 show zce 3 (0+1) [a,b] 2 2 [zAj a,zAj b]=_
 rw[zkO]
 refine zg (by decide) (zd rfl ?_)
 rw[show(((zcr [zAj a,zAj b]).length:Nat):Int)=2 by rw[zss _ rfl];rfl]
 exact zz2 _ (zss _ rfl) 3
def zlr:List AV->Option (AV×Option Prop)
 | [.p (.list 8 R),.p .nil,.p .nil]=>match zA zE (.list 8 R)with
  | some l=>some (.p (.list 1 (.dat (.int .i64) (zpe l))),some (zRI l))
  | none=>none
 | _=>none
theorem zFD:zn Tryz.prog 16 zlr:=by
 intro zs r ok he hok
 unfold zlr at he
 split at he
 .rename_i R
  split at he
  .rename_i l hl
   cases he
   obtain⟨rfl,_⟩:=zaj hl
   exact⟨by kernel_rfl,zGl 3 l _ fun _=>zFk l hok⟩
  .cases he
 .cases he
def zBA:=mkG [(16,zlr)] [] 21 [] [([1,1],⟨[1],[]⟩)] []
def zzv(F:Nat)(vl1:List Int):=zx zBA Tryz.f11 F [] [1,1] [(1,pL 1 (.int .i64) vl1)] []
def zCr(F:Nat) :=zF zBA Tryz.f11 F []
theorem zzu(F vl1):letI B:=(vl1.length:Int);letI C:=(0:Int);letI A:=(B==2)&&((vl1.getD C.toNat C)==1);letI D:=(1:Int);zzv F vl1=ze ((B==2)=true->0<=C/\C<B) (ze (A=true->0<=D/\D<B) (some (.p (.bool (A&&((vl1.getD D.toNat C)==2))),[]))):=letI A:=(((vl1.length:Int)==2)&&((vl1.getD (0:Int).toNat (0:Int))==1))=true;letI B:=((vl1.length:Int)==2)=true;Eq.trans (by kernel_rfl) (nI B (zf (nI B (nI B (nI B (nI A (zf (nI A (nI A (nI A rfl))))))))))
theorem zHD(F):letI A:=(0:Int);letI B:=([]:List UInt8);zCr F =ze (zRI ([((2:Int),(A,(B,(A,([],([],(A,A))))))),((1:Int),(A,(B,(A,([],([],(A,A)))))))]:List zq)) (zzv F (zpe ([((2:Int),(A,(B,(A,([],([],(A,A))))))),((1:Int),(A,(B,(A,([],([],(A,A)))))))]:List zq))):=by kernel_rfl
theorem zKt(F r):IsP 11 (zCr F ) [] r:=zG zBA rfl ⟨zFD.any,trivial⟩
theorem zLc:zCr 0=some (.p (.bool true),[]):=by
 rw[zHD]
 refine zd ⟨rfl,?_⟩ ?_
 .intro m hm
  simp only[List.mem_cons,List.not_mem_nil,or_false]at hm
  rcases hm with rfl|rfl <;> rfl
 .have hq:zpe [((2:Int),((0:Int),(([]:List UInt8),((0:Int),([],([],((0:Int),(0:Int)))))))),((1:Int),((0:Int),(([]:List UInt8),((0:Int),([],([],((0:Int),(0:Int))))))))]=[1,2]:=by
   unfold zpe
   rw[List.map_cons,List.map_cons,List.map_nil,zcr,zN5,zN5,if_pos (by decide),List.map_cons,List.map_cons,List.map_nil,zN5,zN5]
  rw[hq,zzu]
  exact zd (fun _=>by decide) (zd (fun _=>by decide) rfl)
def zoY:List AV->Option (AV×Option Prop)
 | []=>some (.p (.bool true),none)
 | _=>none
theorem zJh:zn Tryz.prog 11 zoY:=by
 intro zs r ok he hok
 unfold zoY at he
 split at he
 .cases he;exact⟨by kernel_rfl,zKt 0  _ fun hx=>zLc ⟩
 .cases he
end Go.Proofs.YtampckbjinodgaaGreatDoor
